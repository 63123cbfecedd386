/- Texts of this claim, one behind the other: Z1, T1, Q3, Q4, Q5, S1, S2, RxT. -/
import Derived.Test.YtaignhikdfpbbaaGreatDoorKc1
import Derived.Test.YtaignhikdfpbbaaGreatDoorKc2
set_option linter.unusedVariables false
set_option linter.unusedSimpArgs false
/- WALKS written by gen.py (own program) out of specs. -/
namespace Go.Proofs.YtaignhikdfpbbaaGreatDoor
open Go.RowKit Go.Rx
set_option maxRecDepth 100000
set_option maxHeartbeats 4000000
set_option linter.unusedVariables false
set_option linter.unusedSimpArgs false

theorem c_mod (x : Int) (w0 : World) :
    Calls Tryz.prog 94 #[ei x] w0 fun e w' => e = .returned (en (zmod x)) ∧ Below w0.heap.size w0 w' := by
 refine enter (args := [_]) Tryz.func94 rfl Tryz.ntmps94 rfl ?_
 intro a ha
 have hB := Below.refl w0.heap.size w0
 have htm := tm_facts x
 refine qr fun K1 k2 => ?_
 refine s1 ha rfl (av rfl) ?_; intro a ha
 refine k2 _ _ ?_
 refine qr fun K3 k4 => ?_
 refine s3 ha rfl (mv rfl) (fun _ ha => r_rem ha x 3329 rfl rfl (by omega)) (av rfl) ?_; intro a ha
 refine k4 _ _ ?_
 refine qr fun K5 k6 => ?_
 refine s6 ha rfl (mv rfl) (mv rfl) (fun _ ha => r_shr ha (x.tmod 3329) 63 rfl rfl (by omega)) (fun _ ha => r_andS ha 3329 (x.tmod 3329) (if (x.tmod 3329) < 0 then ((3329 : Nat) : Int) else 0) (by omega) rfl rfl (by omega) rfl) (fun _ ha => n_of (r_add ha (x.tmod 3329) (if (x.tmod 3329) < 0 then ((3329 : Nat) : Int) else 0) rfl rfl (by split <;> omega)) (k := zmod x) htm.2.2) (av rfl) ?_; intro a ha
 refine k6 _ _ ?_
 refine wp_ret ?_
 exact ret1 ha Tryz.results94 rfl ⟨rfl, hB⟩

theorem c_barrett (x : UInt32) (w0 : World) :
    Calls Tryz.prog 116 #[e32 x] w0 fun e w' => e = .returned (en (x.toNat % 3329)) ∧ Below w0.heap.size w0 w' := by
 refine enter (args := [_]) Tryz.func116 rfl Tryz.ntmps116 rfl ?_
 intro a ha
 have hB := Below.refl w0.heap.size w0
 have hx := lt32 x
 refine qr fun K1 k2 => ?_
 refine s1 ha rfl (av rfl) ?_; intro a ha
 refine k2 _ _ ?_
 refine qr fun K3 k4 => ?_
 refine s5 ha rfl (mv rfl) (fun _ ha => r_conv_u32_n ha x Tryz.runUnderlying111 Tryz.runUnderlying98 rfl) (fun _ ha => rx_mul ha x.toNat 2642262849 rfl rfl (by omega)) (fun _ ha => rx_shr ha (x.toNat * 2642262849) 43 rfl rfl (by omega)) (av rfl) ?_; intro a ha
 refine k4 _ _ ?_
 refine qr fun K5 k6 => ?_
 refine s6 ha rfl (mv rfl) (fun _ ha => r_conv_u32_i64 ha x Tryz.runUnderlying111 Tryz.runUnderlying3 rfl) (mv rfl) (fun _ ha => r_conv_un_i64 ha ((x.toNat * 2642262849) >>> 43) Tryz.runUnderlying98 Tryz.runUnderlying3 rfl (by omega)) (fun _ ha => rn_mul ha ((x.toNat * 2642262849) >>> 43) 3329 rfl rfl (by omega)) (fun _ ha => r_sub ha ((x.toNat : Nat) : Int) ((((x.toNat * 2642262849) >>> 43) * 3329 : Nat) : Int) rfl rfl (by omega)) ?_; intro a ha
 refine s1 ha rfl (av rfl) ?_; intro a ha
 refine k6 _ _ ?_
 refine qr fun K7 k8 => ?_
 refine s6 ha rfl (mv rfl) (mv rfl) (fun _ ha => r_shr ha (((x.toNat : Nat) : Int) - ((((x.toNat * 2642262849) >>> 43) * 3329 : Nat) : Int)) 63 rfl rfl (by omega)) (fun _ ha => r_andS ha 3329 (((x.toNat : Nat) : Int) - ((((x.toNat * 2642262849) >>> 43) * 3329 : Nat) : Int)) (if (((x.toNat : Nat) : Int) - ((((x.toNat * 2642262849) >>> 43) * 3329 : Nat) : Int)) < 0 then ((3329 : Nat) : Int) else 0) (by omega) rfl rfl (by omega) rfl) (fun _ ha => n_of (r_add ha (((x.toNat : Nat) : Int) - ((((x.toNat * 2642262849) >>> 43) * 3329 : Nat) : Int)) (if (((x.toNat : Nat) : Int) - ((((x.toNat * 2642262849) >>> 43) * 3329 : Nat) : Int)) < 0 then ((3329 : Nat) : Int) else 0) rfl rfl (by split <;> omega)) (k := x.toNat % 3329) (by split <;> omega)) (av rfl) ?_; intro a ha
 refine k8 _ _ ?_
 refine wp_ret ?_
 exact ret1 ha Tryz.results116 rfl ⟨rfl, hB⟩

theorem c_add (x y : Int) (w0 : World) :
    Calls Tryz.prog 87 #[ei x, ei y] w0 fun e w' => e = .returned (en (zadd x y)) ∧ Below w0.heap.size w0 w' := by
 refine enter (args := [_, _]) Tryz.func87 rfl Tryz.ntmps87 rfl ?_
 intro a ha
 have hB := Below.refl w0.heap.size w0
 have hza := zmod_lt x
 have hzb := zmod_lt y
 refine qr fun K1 k2 => ?_
 refine s1 ha rfl (av rfl) ?_; intro a ha
 refine k2 _ _ ?_
 refine qr fun K3 k4 => ?_
 refine s1 ha rfl (mv rfl) ?_; intro a ha
 refine scp ha (r_call ha [ei x] rfl Tryz.call94) rfl rfl rfl (c_mod x _ ) ?_; intro w5 hg a ha
 replace hB := keepB0 hg hB
 refine s1 ha rfl (mv rfl) ?_; intro a ha
 refine scp ha (r_call ha [ei y] rfl Tryz.call94) rfl rfl rfl (c_mod y _ ) ?_; intro w6 hg a ha
 replace hB := keepB0 hg hB
 refine s1 ha rfl (fun _ ha => rn_add ha (zmod x) (zmod y) rfl rfl (by omega)) ?_; intro a ha
 refine scp ha (r_call ha [ei (((zmod x) + (zmod y) : Nat) : Int)] rfl Tryz.call94) rfl rfl rfl (c_mod (((zmod x) + (zmod y) : Nat) : Int) _ ) ?_; intro w7 hg a ha
 replace hB := keepB0 hg hB
 refine s1 ha rfl (av rfl) ?_; intro a ha
 refine k4 _ _ ?_
 refine wp_ret ?_
 exact ret1 ha Tryz.results87 rfl ⟨rfl, hB⟩

theorem c_sub (x y : Int) (w0 : World) :
    Calls Tryz.prog 86 #[ei x, ei y] w0 fun e w' => e = .returned (en (zsub x y)) ∧ Below w0.heap.size w0 w' := by
 refine enter (args := [_, _]) Tryz.func86 rfl Tryz.ntmps86 rfl ?_
 intro a ha
 have hB := Below.refl w0.heap.size w0
 have hza := zmod_lt x
 have hzb := zmod_lt y
 refine qr fun K1 k2 => ?_
 refine s1 ha rfl (av rfl) ?_; intro a ha
 refine k2 _ _ ?_
 refine qr fun K3 k4 => ?_
 refine s1 ha rfl (mv rfl) ?_; intro a ha
 refine scp ha (r_call ha [ei x] rfl Tryz.call94) rfl rfl rfl (c_mod x _ ) ?_; intro w5 hg a ha
 replace hB := keepB0 hg hB
 refine s1 ha rfl (mv rfl) ?_; intro a ha
 refine scp ha (r_call ha [ei y] rfl Tryz.call94) rfl rfl rfl (c_mod y _ ) ?_; intro w6 hg a ha
 replace hB := keepB0 hg hB
 refine s1 ha rfl (fun _ ha => r_sub ha ((zmod x : Nat) : Int) ((zmod y : Nat) : Int) rfl rfl (by omega)) ?_; intro a ha
 refine scp ha (r_call ha [ei (((zmod x : Nat) : Int) - ((zmod y : Nat) : Int))] rfl Tryz.call94) rfl rfl rfl (c_mod (((zmod x : Nat) : Int) - ((zmod y : Nat) : Int)) _ ) ?_; intro w7 hg a ha
 replace hB := keepB0 hg hB
 refine s1 ha rfl (av rfl) ?_; intro a ha
 refine k4 _ _ ?_
 refine wp_ret ?_
 exact ret1 ha Tryz.results86 rfl ⟨rfl, hB⟩

theorem c_mul (x y : Int) (w0 : World) :
    Calls Tryz.prog 85 #[ei x, ei y] w0 fun e w' => e = .returned (en (zmul x y)) ∧ Below w0.heap.size w0 w' := by
 refine enter (args := [_, _]) Tryz.func85 rfl Tryz.ntmps85 rfl ?_
 intro a ha
 have hB := Below.refl w0.heap.size w0
 have hzp := zprod_le x y
 refine qr fun K1 k2 => ?_
 refine s1 ha rfl (av rfl) ?_; intro a ha
 refine k2 _ _ ?_
 refine qr fun K3 k4 => ?_
 refine s1 ha rfl (mv rfl) ?_; intro a ha
 refine scp ha (r_call ha [ei x] rfl Tryz.call94) rfl rfl rfl (c_mod x _ ) ?_; intro w5 hg a ha
 replace hB := keepB0 hg hB
 refine s1 ha rfl (mv rfl) ?_; intro a ha
 refine scp ha (r_call ha [ei y] rfl Tryz.call94) rfl rfl rfl (c_mod y _ ) ?_; intro w6 hg a ha
 replace hB := keepB0 hg hB
 refine s2 ha rfl (fun _ ha => rn_mul ha (zmod x) (zmod y) rfl rfl (by omega)) (fun _ ha => r_conv_n_u32w ha ((zmod x) * (zmod y)) Tryz.runUnderlying3 Tryz.runUnderlying111 rfl) ?_; intro a ha
 refine scp ha (r_call ha [e32 (UInt32.ofNat ((zmod x) * (zmod y)))] rfl Tryz.call116) rfl rfl rfl (c_barrett (UInt32.ofNat ((zmod x) * (zmod y))) _ ) ?_; intro w7 hg a ha
 replace hB := keepB0 hg hB
 refine s1 ha rfl (av rfl) ?_; intro a ha
 refine k4 _ _ ?_
 refine wp_ret ?_
 exact ret1 ha Tryz.results85 rfl ⟨(congrArg (fun n : Nat => Ending.returned (en n)) (mul_eq x y)), hB⟩

theorem c_comp (d : Nat) (x : Int) (w0 : World) (h1 : 1 ≤ d) (h2 : d ≤ 11) :
    Calls Tryz.prog 99 #[en d, ei x] w0 fun e w' => e = .returned (en (zcomp d x)) ∧ Below w0.heap.size w0 w' := by
 refine enter (args := [_, _]) Tryz.func99 rfl Tryz.ntmps99 rfl ?_
 intro a ha
 have hB := Below.refl w0.heap.size w0
 have hp := Nat.pow_le_pow_right (n := 2) (by decide) (show d + 1 ≤ 12 by omega)
 have hp2 := Nat.pow_le_pow_right (n := 2) (by decide) (show d ≤ 11 by omega)
 have hp3 : 1 ≤ 2 ^ d := Nat.one_le_two_pow
 have hx := zmod_lt x
 have hm := Nat.mul_le_mul (show zmod x ≤ 3328 by omega) hp
 refine qr fun K1 k2 => ?_
 refine s1 ha rfl (av rfl) ?_; intro a ha
 refine k2 _ _ ?_
 refine wp_seq_k fun K3 k4 => ?_
 refine qr fun K5 k6 => ?_
 refine s3 ha rfl (mv rfl) (fun _ ha => r_lss ha ((d : Nat) : Int) 1 false rfl rfl (decide_eq_false (by omega))) (mv rfl) ?_; intro a ha
 refine svg ha (r_move ha rfl) rfl rfl rfl rfl rfl ?_; intro a ha
 refine svg ha (r_gtr ha ((d : Nat) : Int) 11 false rfl rfl (decide_eq_false (by omega))) rfl rfl rfl rfl rfl ?_; intro a ha
 refine s1 ha rfl (fun _ ha => r_pick ha false rfl rfl) ?_; intro a ha
 refine k6 _ _ ?_
 refine cond_f ha rfl ?_
 refine wp_skip ?_
 refine k4 _ _ ?_
 refine qr fun K7 k8 => ?_
 refine s1 ha rfl (mv rfl) ?_; intro a ha
 refine scp ha (r_call ha [ei x] rfl Tryz.call94) rfl rfl rfl (c_mod x _ ) ?_; intro w9 hg a ha
 replace hB := keepB0 hg hB
 refine s6 ha rfl (mv rfl) (fun _ ha => rn_add ha d 1 rfl rfl (by omega)) (fun _ ha => r_conv_n_u64 ha (d + 1) Tryz.runUnderlying3 Tryz.runUnderlying40 rfl (by omega)) (fun _ ha => rn_shl ha (zmod x) (d + 1) rfl rfl (by omega) (by omega)) (fun _ ha => rn_add ha ((zmod x) * 2 ^ (d + 1)) 3329 rfl rfl (by omega)) (fun _ ha => rn_quo ha (((zmod x) * 2 ^ (d + 1)) + 3329) 6658 rfl rfl (by omega) (by omega)) ?_; intro a ha
 refine s6 ha rfl (mv rfl) (fun _ ha => r_conv_n_u64 ha d Tryz.runUnderlying3 Tryz.runUnderlying40 rfl (by omega)) (fun _ ha => rn_shl ha 1 d rfl rfl (by omega) (by omega)) (fun _ ha => rn_sub ha (1 * 2 ^ d) 1 rfl rfl (by omega) (by omega)) (fun _ ha => r_mask ha (((((zmod x) * 2 ^ (d + 1)) + 3329) / 6658 : Nat) : Int) d (by omega) (m := (1 * 2 ^ d) - 1) (by omega) rfl rfl) (av rfl) ?_; intro a ha
 refine k8 _ _ ?_
 refine wp_ret ?_
 exact ret1 ha Tryz.results99 rfl ⟨(congrArg (fun n : Nat => Ending.returned (en n)) (by rw [← Int.natCast_emod, Int.toNat_natCast]; rfl)), hB⟩

theorem c_compN (d x : Int) (w0 : World) (hd : d < 1 ∨ 11 < d) :
    Calls Tryz.prog 99 #[ei d, ei x] w0 fun e w' => e = .returned (en 0) ∧ Below w0.heap.size w0 w' := by
 refine enter (args := [_, _]) Tryz.func99 rfl Tryz.ntmps99 rfl ?_
 intro a ha
 have hB := Below.refl w0.heap.size w0
 refine qr fun K1 k2 => ?_
 refine s1 ha rfl (av rfl) ?_; intro a ha
 refine k2 _ _ ?_
 refine wp_seq_k fun K3 k4 => ?_
 refine qr fun K5 k6 => ?_
 refine s3 ha rfl (mv rfl) (fun _ ha => r_lss ha d 1 (decide (d < 1)) rfl rfl (decide_eq_decide.2 (by omega))) (mv rfl) ?_; intro a ha
 cases hq7 : (decide (d < 1))
 all_goals rw [hq7] at ha
 case false =>
  replace hq7 := of_decide_eq_false hq7
  refine svg ha (r_move ha rfl) rfl rfl rfl rfl rfl ?_; intro a ha
  refine svg ha (r_gtr ha d 11 true rfl rfl (decide_eq_true (by omega))) rfl rfl rfl rfl rfl ?_; intro a ha
  refine s1 ha rfl (fun _ ha => r_pick ha false rfl rfl) ?_; intro a ha
  refine k6 _ _ ?_
  refine cond_t ha rfl ?_
  refine qr fun K8 k9 => ?_
  refine s1 ha rfl (av rfl) ?_; intro a ha
  refine k9 _ _ ?_
  refine wp_ret (t_ret ?_)
  exact ret1 ha Tryz.results99 rfl ⟨rfl, hB⟩
 case true =>
  replace hq7 := of_decide_eq_true hq7
  refine sno ha rfl rfl rfl rfl rfl rfl ?_; intro a ha
  refine sno ha rfl rfl rfl rfl rfl rfl ?_; intro a ha
  refine s1 ha rfl (fun _ ha => r_pick ha true rfl rfl) ?_; intro a ha
  refine k6 _ _ ?_
  refine cond_t ha rfl ?_
  refine qr fun K10 k11 => ?_
  refine s1 ha rfl (av rfl) ?_; intro a ha
  refine k11 _ _ ?_
  refine wp_ret (t_ret ?_)
  exact ret1 ha Tryz.results99 rfl ⟨rfl, hB⟩

theorem c_compZ (d x : Int) (w0 : World) :
    Calls Tryz.prog 99 #[ei d, ei x] w0 fun e w' => e = .returned (en (zcompZ d x)) ∧ Below w0.heap.size w0 w' := by
  by_cases h : 1 ≤ d ∧ d ≤ 11
  · obtain ⟨n, rfl⟩ := Int.eq_ofNat_of_zero_le (show 0 ≤ d by omega)
    refine (c_comp n x w0 (by omega) (by omega)).mono fun e w h' => ?_
    rw [zcompZ, if_pos h]; exact h'
  · refine (c_compN d x w0 (by omega)).mono fun e w h' => ?_
    rw [zcompZ, if_neg h]; exact h'

theorem c_dec (d : Nat) (x : Int) (w0 : World) (h1 : 1 ≤ d) (h2 : d ≤ 11) :
    Calls Tryz.prog 98 #[en d, ei x] w0 fun e w' => e = .returned (en (zdec d x)) ∧ Below w0.heap.size w0 w' := by
 refine enter (args := [_, _]) Tryz.func98 rfl Tryz.ntmps98 rfl ?_
 intro a ha
 have hB := Below.refl w0.heap.size w0
 have hp := Nat.pow_le_pow_right (n := 2) (by decide) (show d + 1 ≤ 12 by omega)
 have hp2 := Nat.pow_le_pow_right (n := 2) (by decide) (show d ≤ 11 by omega)
 have hp3 : 1 ≤ 2 ^ d := Nat.one_le_two_pow
 have hr0 := Int.emod_nonneg x (show ((2 ^ d : Nat) : Int) ≠ 0 by omega)
 have hr1 := Int.emod_lt_of_pos x (show (0 : Int) < ((2 ^ d : Nat) : Int) by omega)
 refine qr fun K1 k2 => ?_
 refine s1 ha rfl (av rfl) ?_; intro a ha
 refine k2 _ _ ?_
 refine wp_seq_k fun K3 k4 => ?_
 refine qr fun K5 k6 => ?_
 refine s3 ha rfl (mv rfl) (fun _ ha => r_lss ha ((d : Nat) : Int) 1 false rfl rfl (decide_eq_false (by omega))) (mv rfl) ?_; intro a ha
 refine svg ha (r_move ha rfl) rfl rfl rfl rfl rfl ?_; intro a ha
 refine svg ha (r_gtr ha ((d : Nat) : Int) 11 false rfl rfl (decide_eq_false (by omega))) rfl rfl rfl rfl rfl ?_; intro a ha
 refine s1 ha rfl (fun _ ha => r_pick ha false rfl rfl) ?_; intro a ha
 refine k6 _ _ ?_
 refine cond_f ha rfl ?_
 refine wp_skip ?_
 refine k4 _ _ ?_
 refine qr fun K7 k8 => ?_
 refine s6 ha rfl (mv rfl) (mv rfl) (fun _ ha => r_conv_n_u64 ha d Tryz.runUnderlying3 Tryz.runUnderlying40 rfl (by omega)) (fun _ ha => rn_shl ha 1 d rfl rfl (by omega) (by omega)) (fun _ ha => rn_sub ha (1 * 2 ^ d) 1 rfl rfl (by omega) (by omega)) (fun _ ha => r_mask ha x d (by omega) (m := (1 * 2 ^ d) - 1) (by omega) rfl rfl) ?_; intro a ha
 refine s1 ha rfl (av rfl) ?_; intro a ha
 refine k8 _ _ ?_
 refine qr fun K9 k10 => ?_
 refine s6 ha rfl (mv rfl) (fun _ ha => rn_mul ha 6658 ((x % (2 ^ d : Nat)).toNat) rfl rfl (by omega)) (mv rfl) (fun _ ha => r_conv_n_u64 ha d Tryz.runUnderlying3 Tryz.runUnderlying40 rfl (by omega)) (fun _ ha => rn_shl ha 1 d rfl rfl (by omega) (by omega)) (fun _ ha => rn_add ha (6658 * ((x % (2 ^ d : Nat)).toNat)) (1 * 2 ^ d) rfl rfl (by omega)) ?_; intro a ha
 refine s5 ha rfl (mv rfl) (fun _ ha => rn_add ha d 1 rfl rfl (by omega)) (fun _ ha => r_conv_n_u64 ha (d + 1) Tryz.runUnderlying3 Tryz.runUnderlying40 rfl (by omega)) (fun _ ha => rn_shr ha ((6658 * ((x % (2 ^ d : Nat)).toNat)) + (1 * 2 ^ d)) (d + 1) rfl rfl (by omega)) (av rfl) ?_; intro a ha
 refine k10 _ _ ?_
 refine wp_ret ?_
 exact ret1 ha Tryz.results98 rfl ⟨(congrArg (fun n : Nat => Ending.returned (en n)) (by rw [Nat.one_mul, Nat.shiftRight_eq_div_pow]; rfl)), hB⟩

theorem c_decN (d x : Int) (w0 : World) (hd : d < 1 ∨ 11 < d) :
    Calls Tryz.prog 98 #[ei d, ei x] w0 fun e w' => e = .returned (en 0) ∧ Below w0.heap.size w0 w' := by
 refine enter (args := [_, _]) Tryz.func98 rfl Tryz.ntmps98 rfl ?_
 intro a ha
 have hB := Below.refl w0.heap.size w0
 refine qr fun K1 k2 => ?_
 refine s1 ha rfl (av rfl) ?_; intro a ha
 refine k2 _ _ ?_
 refine wp_seq_k fun K3 k4 => ?_
 refine qr fun K5 k6 => ?_
 refine s3 ha rfl (mv rfl) (fun _ ha => r_lss ha d 1 (decide (d < 1)) rfl rfl (decide_eq_decide.2 (by omega))) (mv rfl) ?_; intro a ha
 cases hq7 : (decide (d < 1))
 all_goals rw [hq7] at ha
 case false =>
  replace hq7 := of_decide_eq_false hq7
  refine svg ha (r_move ha rfl) rfl rfl rfl rfl rfl ?_; intro a ha
  refine svg ha (r_gtr ha d 11 true rfl rfl (decide_eq_true (by omega))) rfl rfl rfl rfl rfl ?_; intro a ha
  refine s1 ha rfl (fun _ ha => r_pick ha false rfl rfl) ?_; intro a ha
  refine k6 _ _ ?_
  refine cond_t ha rfl ?_
  refine qr fun K8 k9 => ?_
  refine s1 ha rfl (av rfl) ?_; intro a ha
  refine k9 _ _ ?_
  refine wp_ret (t_ret ?_)
  exact ret1 ha Tryz.results98 rfl ⟨rfl, hB⟩
 case true =>
  replace hq7 := of_decide_eq_true hq7
  refine sno ha rfl rfl rfl rfl rfl rfl ?_; intro a ha
  refine sno ha rfl rfl rfl rfl rfl rfl ?_; intro a ha
  refine s1 ha rfl (fun _ ha => r_pick ha true rfl rfl) ?_; intro a ha
  refine k6 _ _ ?_
  refine cond_t ha rfl ?_
  refine qr fun K10 k11 => ?_
  refine s1 ha rfl (av rfl) ?_; intro a ha
  refine k11 _ _ ?_
  refine wp_ret (t_ret ?_)
  exact ret1 ha Tryz.results98 rfl ⟨rfl, hB⟩

theorem c_decZ (d x : Int) (w0 : World) :
    Calls Tryz.prog 98 #[ei d, ei x] w0 fun e w' => e = .returned (en (zdecZ d x)) ∧ Below w0.heap.size w0 w' := by
  by_cases h : 1 ≤ d ∧ d ≤ 11
  · obtain ⟨n, rfl⟩ := Int.eq_ofNat_of_zero_le (show 0 ≤ d by omega)
    refine (c_dec n x w0 (by omega) (by omega)).mono fun e w h' => ?_
    rw [zdecZ, if_pos h]; exact h'
  · refine (c_decN d x w0 (by omega)).mono fun e w h' => ?_
    rw [zdecZ, if_neg h]; exact h'

theorem c_zeta (i : Int) (w0 : World) (hP : GlobP w0) :
    Calls Tryz.prog 84 #[ei i] w0 fun e w' => e = .returned (en (zz i 7)) ∧ Below w0.heap.size w0 w' := by
 refine enter (args := [_]) Tryz.func84 rfl Tryz.ntmps84 rfl ?_
 intro a ha
 have hB := Below.refl w0.heap.size w0
 refine qr fun K1 k2 => ?_
 refine s1 ha rfl (av rfl) ?_; intro a ha
 refine k2 _ _ ?_
 refine qr fun K3 k4 => ?_
 refine s1 ha rfl (av rfl) ?_; intro a ha
 refine k4 _ _ ?_
 refine wp_seq_k fun K5 k6 => ?_
 refine qr fun K7 k8 => ?_
 refine s2 ha rfl (fun _ ha => r_loadR ha rfl Tryz.isAgg109 Tryz.sizeOf109 (C := (powers).map en) rfl (cells_glob (glob_0 hP hB))) (mv rfl) ?_; intro a ha
 refine k8 _ _ ?_
 refine wp_block ?_
 refine loopG (fun (j : Nat) a w => (j ≤ 7) ∧ Has 22 [(0, ei i), (6, .agg ((powers).map en).toArray), (7, en j), (3, en (zz i j))] a ∧ Below w0.heap.size w0 w) (fun j => 7 - j) 0 ⟨(by omega), ha.to [0, 6, 7, 3] rfl, hB⟩ ?_
 clear ha a hB
 intro j a w9 ⟨hkj, ha, hB⟩
 refine qr fun K10 k11 => ?_
 refine s1 ha rfl (fun _ ha => r_lss ha ((j : Nat) : Int) 7 (decide (j < 7)) rfl rfl (decide_eq_decide.2 (by omega))) ?_; intro a ha
 refine k11 _ _ ?_
 refine wp_seq_k fun K12 k13 => ?_
 refine cond_if ha rfl (fun hc14 => ?_) (fun hc14 => ?_)
 ·skip
  replace hc14 := of_decide_eq_true hc14
  refine wp_skip ?_
  refine k13 _ _ ?_
  refine wp_seq_k fun K15 k16 => ?_
  refine wp_block ?_
  refine qr fun K17 k18 => ?_
  refine s4 ha rfl (mv rfl) (fun _ ha => r_index (C := (powers).map en) ha j rfl rfl Tryz.runUnderlying109 Tryz.sizeOf3 Tryz.isAgg3 (by omega) (get_map en powers 0 j (by rw [show List.length powers = 7 from rfl]; omega))) (av rfl) (av rfl) ?_; intro a ha
  refine k18 _ _ ?_
  refine qr fun K19 k20 => ?_
  refine s6 ha rfl (mv rfl) (mv rfl) (fun _ ha => r_conv_n_u64 ha j Tryz.runUnderlying3 Tryz.runUnderlying40 rfl (by omega)) (fun _ ha => r_shr ha i j rfl rfl (by omega)) (fun _ ha => r_mask ha (i / 2 ^ j) 1 (by omega) (m := 1) rfl rfl rfl) (fun _ ha => r_eql ha ((((i / 2 ^ j) % (2 ^ 1 : Nat)).toNat : Nat) : Int) 1 (decide (((i / 2 ^ j) % (2 ^ 1 : Nat)).toNat = 1)) rfl rfl (decide_eq_decide.2 (by omega))) ?_; intro a ha
  refine k20 _ _ ?_
  refine cond_if ha rfl (fun hc21 => ?_) (fun hc21 => ?_)
  ·skip
   replace hc21 := of_decide_eq_true hc21
   refine region ?_
   refine s2 ha rfl (mv rfl) (mv rfl) ?_; intro a ha
   refine scp ha (r_call ha [ei ((zz i j : Nat) : Int), ei ((powers.getD j 0 : Nat) : Int)] rfl Tryz.call85) rfl rfl rfl (c_mul ((zz i j : Nat) : Int) ((powers.getD j 0 : Nat) : Int) _ ) ?_; intro w22 hg a ha
   replace hB := keepB0 hg hB
   refine s1 ha rfl (av rfl) ?_; intro a ha
   refine k16 _ _ ?_
   refine region ?_
   refine s2 ha rfl (fun _ ha => rn_add ha j 1 rfl rfl (by omega)) (mv rfl) ?_; intro a ha
   exact ⟨j + 1, by omega, (by omega), ha.to [0, 6, 7, 3] (by simp only [zz]; first | (rw [if_pos (by assumption)]; rfl) | (rw [if_neg (by assumption)]; rfl)), hB⟩
  ·skip
   replace hc21 := of_decide_eq_false hc21
   refine wp_skip ?_
   refine k16 _ _ ?_
   refine region ?_
   refine s2 ha rfl (fun _ ha => rn_add ha j 1 rfl rfl (by omega)) (mv rfl) ?_; intro a ha
   exact ⟨j + 1, by omega, (by omega), ha.to [0, 6, 7, 3] (by simp only [zz]; first | (rw [if_pos (by assumption)]; rfl) | (rw [if_neg (by assumption)]; rfl)), hB⟩
 ·skip
  replace hc14 := of_decide_eq_false hc14
  refine wp_exit ?_
  obtain rfl : j = 7 := by omega
  refine k6 _ _ ?_
  refine qr fun K23 k24 => ?_
  refine s2 ha rfl (mv rfl) (av rfl) ?_; intro a ha
  refine k24 _ _ ?_
  refine wp_ret ?_
  exact ret1 ha Tryz.results84 rfl ⟨rfl, hB⟩

theorem c_rmod (x : Int) (w0 : World) :
    Calls Tryz.prog 81 #[ei x] w0 fun e w' => e = .returned (en (zmod x)) ∧ Below w0.heap.size w0 w' := by
 refine enter (args := [_]) Tryz.func81 rfl Tryz.ntmps81 rfl ?_
 intro a ha
 have hB := Below.refl w0.heap.size w0
 have htm := tm_emod x 3329 (by decide)
 have hzi := zmod_int x
 refine qr fun K1 k2 => ?_
 refine s1 ha rfl (av rfl) ?_; intro a ha
 refine k2 _ _ ?_
 refine qr fun K3 k4 => ?_
 refine s3 ha rfl (mv rfl) (fun _ ha => r_rem ha x 3329 rfl rfl (by omega)) (av rfl) ?_; intro a ha
 refine k4 _ _ ?_
 refine wp_seq_k fun K5 k6 => ?_
 refine qr fun K7 k8 => ?_
 refine s2 ha rfl (mv rfl) (fun _ ha => r_lss ha (x.tmod 3329) 0 (decide (x.tmod 3329 < 0)) rfl rfl (decide_eq_decide.2 (by omega))) ?_; intro a ha
 refine k8 _ _ ?_
 refine cond_if ha rfl (fun hc9 => ?_) (fun hc9 => ?_)
 ·skip
  replace hc9 := of_decide_eq_true hc9
  refine region ?_
  refine s3 ha rfl (mv rfl) (fun _ ha => n_of (r_add ha (x.tmod 3329) 3329 rfl rfl (by omega)) (k := zmod x) (by omega)) (av rfl) ?_; intro a ha
  refine k6 _ _ ?_
  refine qr fun K10 k11 => ?_
  refine s2 ha rfl (mv rfl) (av rfl) ?_; intro a ha
  refine k11 _ _ ?_
  refine wp_ret ?_
  exact ret1 ha Tryz.results81 rfl ⟨(by first | rfl | exact congrArg (fun z : Int => Ending.returned (ei z)) (by omega)), hB⟩
 ·skip
  replace hc9 := of_decide_eq_false hc9
  refine wp_skip ?_
  refine k6 _ _ ?_
  refine qr fun K12 k13 => ?_
  refine s2 ha rfl (mv rfl) (av rfl) ?_; intro a ha
  refine k13 _ _ ?_
  refine wp_ret ?_
  exact ret1 ha Tryz.results81 rfl ⟨(by first | rfl | exact congrArg (fun z : Int => Ending.returned (ei z)) (by omega)), hB⟩

theorem c_rpow (x : Int) (n : Nat) (w0 : World) :
    Calls Tryz.prog 100 #[ei x, en n] w0 fun e w' => e = .returned (en (rpow x n)) ∧ Below w0.heap.size w0 w' := by
 refine enter (args := [_, _]) Tryz.func100 rfl Tryz.ntmps100 rfl ?_
 intro a ha
 have hB := Below.refl w0.heap.size w0
 have hza := zmod_lt x
 refine qr fun K1 k2 => ?_
 refine s1 ha rfl (av rfl) ?_; intro a ha
 refine k2 _ _ ?_
 refine wp_seq_k fun K3 k4 => ?_
 refine qr fun K5 k6 => ?_
 refine s2 ha rfl (mv rfl) (fun _ ha => r_lss ha ((n : Nat) : Int) 0 false rfl rfl (decide_eq_false (by omega))) ?_; intro a ha
 refine k6 _ _ ?_
 refine cond_f ha rfl ?_
 refine wp_skip ?_
 refine k4 _ _ ?_
 refine qr fun K7 k8 => ?_
 refine s1 ha rfl (mv rfl) ?_; intro a ha
 refine scp ha (r_call ha [ei x] rfl Tryz.call81) rfl rfl rfl (c_rmod x _ ) ?_; intro w9 hg a ha
 replace hB := keepB0 hg hB
 refine s1 ha rfl (av rfl) ?_; intro a ha
 refine k8 _ _ ?_
 refine wp_seq_k fun K10 k11 => ?_
 refine qr fun K12 k13 => ?_
 refine s3 ha rfl (mv rfl) (fun _ ha => r_eql ha ((zmod x : Nat) : Int) 0 (decide (zmod x = 0)) rfl rfl (decide_eq_decide.2 (by omega))) (mv rfl) ?_; intro a ha
 cases hq14 : (decide (zmod x = 0))
 all_goals rw [hq14] at ha
 case false =>
  replace hq14 := of_decide_eq_false hq14
  refine sno ha rfl rfl rfl rfl rfl rfl ?_; intro a ha
  refine sno ha rfl rfl rfl rfl rfl rfl ?_; intro a ha
  refine s1 ha rfl (fun _ ha => r_pick ha false rfl rfl) ?_; intro a ha
  refine k13 _ _ ?_
  refine cond_f ha rfl ?_
  refine wp_skip ?_
  refine k11 _ _ ?_
  refine qr fun K15 k16 => ?_
  refine s1 ha rfl (av rfl) ?_; intro a ha
  refine k16 _ _ ?_
  refine wp_seq_k fun K17 k18 => ?_
  refine qr fun K19 k20 => ?_
  refine s1 ha rfl (av rfl) ?_; intro a ha
  refine k20 _ _ ?_
  refine wp_block ?_
  refine loopG (fun (i : Nat) a w => (i ≤ (n % 3328)) ∧ Has 28 [(1, en n), (0, en (zmod x)), (6, en i), (5, en (rp (zmod x) i))] a ∧ Below w0.heap.size w0 w) (fun i => (n % 3328) - i) 0 ⟨(by omega), ha.to [1, 0, 6, 5] rfl, hB⟩ ?_
  clear ha a hB
  intro i a w21 ⟨hki, ha, hB⟩
  have hrl := rp_lt (zmod x) i
  have hmm := Nat.mul_le_mul (show rp (zmod x) i ≤ 3328 by omega) (show zmod x ≤ 3328 by omega)
  refine wp_seq_k fun K22 k23 => ?_
  refine qr fun K24 k25 => ?_
  refine s4 ha rfl (mv rfl) (mv rfl) (fun _ ha => rn_rem ha n 3328 rfl rfl (by omega)) (fun _ ha => r_lss ha ((i : Nat) : Int) ((n % 3328 : Nat) : Int) (decide (i < n % 3328)) rfl rfl (decide_eq_decide.2 (by omega))) ?_; intro a ha
  refine k25 _ _ ?_
  refine cond_if ha rfl (fun hc26 => ?_) (fun hc26 => ?_)
  ·skip
   replace hc26 := of_decide_eq_true hc26
   refine wp_skip ?_
   refine k23 _ _ ?_
   refine wp_seq_k fun K27 k28 => ?_
   refine wp_block ?_
   refine region ?_
   refine s5 ha rfl (mv rfl) (mv rfl) (fun _ ha => rn_mul ha (rp (zmod x) i) (zmod x) rfl rfl (by omega)) (fun _ ha => rn_rem ha ((rp (zmod x) i) * (zmod x)) 3329 rfl rfl (by omega)) (av rfl) ?_; intro a ha
   refine k28 _ _ ?_
   refine region ?_
   refine s3 ha rfl (mv rfl) (fun _ ha => rn_add ha i 1 rfl rfl (by omega)) (av rfl) ?_; intro a ha
   exact ⟨i + 1, by omega, (by omega), ha.to [1, 0, 6, 5] rfl, hB⟩
  ·skip
   replace hc26 := of_decide_eq_false hc26
   refine wp_exit ?_
   obtain rfl : i = (n % 3328) := by omega
   refine k18 _ _ ?_
   refine qr fun K29 k30 => ?_
   refine s2 ha rfl (mv rfl) (av rfl) ?_; intro a ha
   refine k30 _ _ ?_
   refine wp_ret ?_
   exact ret1 ha Tryz.results100 rfl ⟨(by unfold rpow; first | (rw [if_pos ⟨by omega, by omega⟩]; done) | (rw [if_pos ⟨by omega, by omega⟩]; rfl) | (rw [if_neg (by omega)]; done) | (rw [if_neg (by omega)]; rfl)), hB⟩
 case true =>
  replace hq14 := of_decide_eq_true hq14
  refine svg ha (r_move ha rfl) rfl rfl rfl rfl rfl ?_; intro a ha
  refine svg ha (r_gtr ha ((n : Nat) : Int) 0 (decide (n > 0)) rfl rfl (decide_eq_decide.2 (by omega))) rfl rfl rfl rfl rfl ?_; intro a ha
  refine s1 ha rfl (fun _ ha => r_pick ha true rfl rfl) ?_; intro a ha
  refine k13 _ _ ?_
  refine cond_if ha rfl (fun hc31 => ?_) (fun hc31 => ?_)
  ·skip
   replace hc31 := of_decide_eq_true hc31
   refine qr fun K32 k33 => ?_
   refine s1 ha rfl (av rfl) ?_; intro a ha
   refine k33 _ _ ?_
   refine wp_ret (t_ret ?_)
   exact ret1 ha Tryz.results100 rfl ⟨(by unfold rpow; first | (rw [if_pos ⟨by omega, by omega⟩]; done) | (rw [if_pos ⟨by omega, by omega⟩]; rfl) | (rw [if_neg (by omega)]; done) | (rw [if_neg (by omega)]; rfl)), hB⟩
  ·skip
   replace hc31 := of_decide_eq_false hc31
   refine wp_skip ?_
   refine k11 _ _ ?_
   refine qr fun K34 k35 => ?_
   refine s1 ha rfl (av rfl) ?_; intro a ha
   refine k35 _ _ ?_
   refine wp_seq_k fun K36 k37 => ?_
   refine qr fun K38 k39 => ?_
   refine s1 ha rfl (av rfl) ?_; intro a ha
   refine k39 _ _ ?_
   refine wp_block ?_
   refine loopG (fun (i : Nat) a w => (i ≤ (n % 3328)) ∧ Has 28 [(1, en n), (0, en (zmod x)), (6, en i), (5, en (rp (zmod x) i))] a ∧ Below w0.heap.size w0 w) (fun i => (n % 3328) - i) 0 ⟨(by omega), ha.to [1, 0, 6, 5] rfl, hB⟩ ?_
   clear ha a hB
   intro i a w40 ⟨hki, ha, hB⟩
   have hrl := rp_lt (zmod x) i
   have hmm := Nat.mul_le_mul (show rp (zmod x) i ≤ 3328 by omega) (show zmod x ≤ 3328 by omega)
   refine wp_seq_k fun K41 k42 => ?_
   refine qr fun K43 k44 => ?_
   refine s4 ha rfl (mv rfl) (mv rfl) (fun _ ha => rn_rem ha n 3328 rfl rfl (by omega)) (fun _ ha => r_lss ha ((i : Nat) : Int) ((n % 3328 : Nat) : Int) (decide (i < n % 3328)) rfl rfl (decide_eq_decide.2 (by omega))) ?_; intro a ha
   refine k44 _ _ ?_
   refine cond_if ha rfl (fun hc45 => ?_) (fun hc45 => ?_)
   ·skip
    replace hc45 := of_decide_eq_true hc45
    refine wp_skip ?_
    refine k42 _ _ ?_
    refine wp_seq_k fun K46 k47 => ?_
    refine wp_block ?_
    refine region ?_
    refine s5 ha rfl (mv rfl) (mv rfl) (fun _ ha => rn_mul ha (rp (zmod x) i) (zmod x) rfl rfl (by omega)) (fun _ ha => rn_rem ha ((rp (zmod x) i) * (zmod x)) 3329 rfl rfl (by omega)) (av rfl) ?_; intro a ha
    refine k47 _ _ ?_
    refine region ?_
    refine s3 ha rfl (mv rfl) (fun _ ha => rn_add ha i 1 rfl rfl (by omega)) (av rfl) ?_; intro a ha
    exact ⟨i + 1, by omega, (by omega), ha.to [1, 0, 6, 5] rfl, hB⟩
   ·skip
    replace hc45 := of_decide_eq_false hc45
    refine wp_exit ?_
    obtain rfl : i = (n % 3328) := by omega
    refine k37 _ _ ?_
    refine qr fun K48 k49 => ?_
    refine s2 ha rfl (mv rfl) (av rfl) ?_; intro a ha
    refine k49 _ _ ?_
    refine wp_ret ?_
    exact ret1 ha Tryz.results100 rfl ⟨(by unfold rpow; first | (rw [if_pos ⟨by omega, by omega⟩]; done) | (rw [if_pos ⟨by omega, by omega⟩]; rfl) | (rw [if_neg (by omega)]; done) | (rw [if_neg (by omega)]; rfl)), hB⟩

theorem c_turned (i : Int) (w0 : World) :
    Calls Tryz.prog 113 #[ei i] w0 fun e w' => e = .returned (en (turned i)) ∧ Below w0.heap.size w0 w' := by
 refine enter (args := [_]) Tryz.func113 rfl Tryz.ntmps113 rfl ?_
 intro a ha
 have hB := Below.refl w0.heap.size w0
 refine qr fun K1 k2 => ?_
 refine s1 ha rfl (av rfl) ?_; intro a ha
 refine k2 _ _ ?_
 refine qr fun K3 k4 => ?_
 refine s3 ha rfl (mv rfl) (fun _ ha => r_mask ha i 7 (by omega) (m := 127) rfl rfl rfl) (av rfl) ?_; intro a ha
 refine k4 _ _ ?_
 refine qr fun K5 k6 => ?_
 refine s1 ha rfl (av rfl) ?_; intro a ha
 refine k6 _ _ ?_
 refine wp_seq_k fun K7 k8 => ?_
 refine qr fun K9 k10 => ?_
 refine s1 ha rfl (av rfl) ?_; intro a ha
 refine k10 _ _ ?_
 refine wp_block ?_
 refine loopG (fun (j : Nat) a w => (j ≤ 7) ∧ Has 19 [(4, en j), (0, en (tu0 i j)), (3, en (tuN i j))] a ∧ Below w0.heap.size w0 w) (fun j => 7 - j) 0 ⟨(by omega), ha.to [4, 0, 3] rfl, hB⟩ ?_
 clear ha a hB
 intro j a w11 ⟨hkj, ha, hB⟩
 have htl := tuN_le i j
 have hp := Nat.pow_le_pow_right (n := 2) (by decide) (show j ≤ 7 by omega)
 have htu := tu0_le i j
 refine wp_seq_k fun K12 k13 => ?_
 refine qr fun K14 k15 => ?_
 refine s2 ha rfl (mv rfl) (fun _ ha => r_lss ha ((j : Nat) : Int) 7 (decide (j < 7)) rfl rfl (decide_eq_decide.2 (by omega))) ?_; intro a ha
 refine k15 _ _ ?_
 refine cond_if ha rfl (fun hc16 => ?_) (fun hc16 => ?_)
 ·skip
  replace hc16 := of_decide_eq_true hc16
  refine wp_skip ?_
  refine k13 _ _ ?_
  refine wp_seq_k fun K17 k18 => ?_
  refine wp_block ?_
  refine qr fun K19 k20 => ?_
  refine s6 ha rfl (mv rfl) (fun _ ha => rn_mul ha (tuN i j) 2 rfl rfl (by omega)) (mv rfl) (fun _ ha => rn_rem ha (tu0 i j) 2 rfl rfl (by omega)) (fun _ ha => rn_add ha ((tuN i j) * 2) ((tu0 i j) % 2) rfl rfl (by omega)) (av rfl) ?_; intro a ha
  refine k20 _ _ ?_
  refine region ?_
  refine s3 ha rfl (mv rfl) (fun _ ha => rn_quo ha (tu0 i j) 2 rfl rfl (by omega) (by omega)) (av rfl) ?_; intro a ha
  refine k18 _ _ ?_
  refine region ?_
  refine s3 ha rfl (mv rfl) (fun _ ha => rn_add ha j 1 rfl rfl (by omega)) (av rfl) ?_; intro a ha
  exact ⟨j + 1, by omega, (by omega), ha.to [4, 0, 3] rfl, hB⟩
 ·skip
  replace hc16 := of_decide_eq_false hc16
  refine wp_exit ?_
  obtain rfl : j = 7 := by omega
  refine k8 _ _ ?_
  refine qr fun K21 k22 => ?_
  refine s2 ha rfl (mv rfl) (av rfl) ?_; intro a ha
  refine k22 _ _ ?_
  refine wp_ret ?_
  exact ret1 ha Tryz.results113 rfl ⟨rfl, hB⟩
end Go.Proofs.YtaignhikdfpbbaaGreatDoor

/- WALKS written by gen.py (own program) out of specs. -/
namespace Go.Proofs.YtaignhikdfpbbaaGreatDoor
open Go.RowKit Go.Rx
set_option maxRecDepth 100000
set_option maxHeartbeats 4000000
set_option linter.unusedVariables false
set_option linter.unusedSimpArgs false

theorem c_doClean (x y : Int) (w0 : World) :
    Calls Tryz.prog 115 #[ei x, ei y] w0 fun e w' => e = .returned (en (zmod x)) ∧ Below w0.heap.size w0 w' := by
 refine enter (args := [_, _]) Tryz.func115 rfl Tryz.ntmps115 rfl ?_
 intro a ha
 have hB := Below.refl w0.heap.size w0
 refine qr fun K1 k2 => ?_
 refine s1 ha rfl (av rfl) ?_; intro a ha
 refine k2 _ _ ?_
 refine qr fun K3 k4 => ?_
 refine s1 ha rfl (mv rfl) ?_; intro a ha
 refine scp ha (r_call ha [ei x] rfl Tryz.call94) rfl rfl rfl (c_mod x _ ) ?_; intro w5 hg a ha
 replace hB := keepB0 hg hB
 refine s1 ha rfl (av rfl) ?_; intro a ha
 refine k4 _ _ ?_
 refine wp_ret ?_
 exact ret1 ha Tryz.results115 rfl ⟨rfl, hB⟩

theorem c_doPlus (x y : Int) (w0 : World) :
    Calls Tryz.prog 96 #[ei x, ei y] w0 fun e w' => e = .returned (en (zadd x y)) ∧ Below w0.heap.size w0 w' := by
 refine enter (args := [_, _]) Tryz.func96 rfl Tryz.ntmps96 rfl ?_
 intro a ha
 have hB := Below.refl w0.heap.size w0
 refine qr fun K1 k2 => ?_
 refine s1 ha rfl (av rfl) ?_; intro a ha
 refine k2 _ _ ?_
 refine qr fun K3 k4 => ?_
 refine s2 ha rfl (mv rfl) (mv rfl) ?_; intro a ha
 refine scp ha (r_call ha [ei x, ei y] rfl Tryz.call87) rfl rfl rfl (c_add x y _ ) ?_; intro w5 hg a ha
 replace hB := keepB0 hg hB
 refine s1 ha rfl (av rfl) ?_; intro a ha
 refine k4 _ _ ?_
 refine wp_ret ?_
 exact ret1 ha Tryz.results96 rfl ⟨rfl, hB⟩

theorem c_doMinus (x y : Int) (w0 : World) :
    Calls Tryz.prog 103 #[ei x, ei y] w0 fun e w' => e = .returned (en (zsub x y)) ∧ Below w0.heap.size w0 w' := by
 refine enter (args := [_, _]) Tryz.func103 rfl Tryz.ntmps103 rfl ?_
 intro a ha
 have hB := Below.refl w0.heap.size w0
 refine qr fun K1 k2 => ?_
 refine s1 ha rfl (av rfl) ?_; intro a ha
 refine k2 _ _ ?_
 refine qr fun K3 k4 => ?_
 refine s2 ha rfl (mv rfl) (mv rfl) ?_; intro a ha
 refine scp ha (r_call ha [ei x, ei y] rfl Tryz.call86) rfl rfl rfl (c_sub x y _ ) ?_; intro w5 hg a ha
 replace hB := keepB0 hg hB
 refine s1 ha rfl (av rfl) ?_; intro a ha
 refine k4 _ _ ?_
 refine wp_ret ?_
 exact ret1 ha Tryz.results103 rfl ⟨rfl, hB⟩

theorem c_doInverse (x y : Int) (w0 : World) :
    Calls Tryz.prog 93 #[ei x, ei y] w0 fun e w' => e = .returned (en (zmul x 3303)) ∧ Below w0.heap.size w0 w' := by
 refine enter (args := [_, _]) Tryz.func93 rfl Tryz.ntmps93 rfl ?_
 intro a ha
 have hB := Below.refl w0.heap.size w0
 refine qr fun K1 k2 => ?_
 refine s1 ha rfl (av rfl) ?_; intro a ha
 refine k2 _ _ ?_
 refine qr fun K3 k4 => ?_
 refine s1 ha rfl (mv rfl) ?_; intro a ha
 refine scp ha (r_call ha [ei x, ei 3303] rfl Tryz.call85) rfl rfl rfl (c_mul x 3303 _ ) ?_; intro w5 hg a ha
 replace hB := keepB0 hg hB
 refine s1 ha rfl (av rfl) ?_; intro a ha
 refine k4 _ _ ?_
 refine wp_ret ?_
 exact ret1 ha Tryz.results93 rfl ⟨rfl, hB⟩

theorem zero_50T1 : ∀ w, (zeroValue 50).run Tryz.prog w = .ok (.agg ((List.replicate 256 (0 : Int)).map ei).toArray) w := fun _ => by kernel_rfl
theorem c_eachClean (p q : List Int) (w0 : World) (hp : p.length = 256) (hq : q.length = 256) :
    Calls Tryz.prog 92 #[.agg ((p).map ei).toArray, .agg ((q).map ei).toArray, .func (.func 115) #[] #[]] w0 fun e w' => e = .returned (.agg ((eaA (fun x _ => zmod x) p q 256).map ei).toArray) ∧ Below w0.heap.size w0 w' := by
 refine enter (args := [_, _, _]) Tryz.func92 rfl Tryz.ntmps92 rfl ?_
 intro a ha
 have hB := Below.refl w0.heap.size w0
 refine qr fun K1 k2 => ?_
 refine sbox ha rfl rfl ?_
 intro a w3 b4 ha hg hb4 hge4 hlt4
 have hz4 := Nat.le_trans hB.size hge4
 replace hB := keepB0 hg hB
 refine sbox ha rfl rfl ?_
 intro a w5 b6 ha hg hb6 hge6 hlt6
 have hz6 := Nat.le_trans hB.size hge6
 have hq4_6 := bl hb4 hge6
 replace hB := keepB0 hg hB
 replace hb4 := keepO0 hg hb4
 refine salloc ha zero_50T1 rfl ?_
 intro a w7 b8 ha hg hb8 hge8 hlt8
 have hz8 := Nat.le_trans hB.size hge8
 have hq4_8 := bl hb4 hge8
 have hq6_8 := bl hb6 hge8
 replace hB := keepB0 hg hB
 replace hb4 := keepO0 hg hb4
 replace hb6 := keepO0 hg hb6
 refine k2 _ _ ?_
 refine wp_seq_k fun K9 k10 => ?_
 refine qr fun K11 k12 => ?_
 refine s1 ha rfl (mv rfl) ?_; intro a ha
 refine k12 _ _ ?_
 refine wp_block ?_
 refine loopG (fun (k : Nat) a w => (k ≤ 256) ∧ Has 23 [(2, .func (.func 115) #[] #[]), (3, .pointer (some ⟨b4, 0, none⟩)), (4, .pointer (some ⟨b6, 0, none⟩)), (6, .pointer (some ⟨b8, 0, none⟩)), (8, en k)] a ∧ Below w0.heap.size w0 w ∧ w.heap[b4]? = some (.cells ((eaA (fun x _ => zmod x) p q k).map ei).toArray 50 (0, 0)) ∧ w.heap[b6]? = some (.cells ((q).map ei).toArray 50 (0, 0)) ∧ w.heap[b8]? = some (.cells ((List.replicate 256 (0 : Int)).map ei).toArray 50 (0, 0))) (fun k => 256 - k) 0 ⟨(by omega), ha.to [2, 3, 4, 6, 8] rfl, hB, hb4, hb6, hb8⟩ ?_
 clear ha a hB hb4 hb6 hb8
 intro k a w13 ⟨hkk, ha, hB, hb4, hb6, hb8⟩
 refine qr fun K14 k15 => ?_
 refine s1 ha rfl (fun _ ha => r_lss ha ((k : Nat) : Int) 256 (decide (k < 256)) rfl rfl (decide_eq_decide.2 (by omega))) ?_; intro a ha
 refine k15 _ _ ?_
 refine wp_seq_k fun K16 k17 => ?_
 refine cond_if ha rfl (fun hc18 => ?_) (fun hc18 => ?_)
 ·skip
  replace hc18 := of_decide_eq_true hc18
  refine wp_skip ?_
  refine k17 _ _ ?_
  refine wp_seq_k fun K19 k20 => ?_
  refine wp_block ?_
  refine qr fun K21 k22 => ?_
  refine s2 ha rfl (mv rfl) (av rfl) ?_; intro a ha
  refine k22 _ _ ?_
  refine regionD (S := fun w => Below w0.heap.size w0 w ∧ w.heap[b4]? = some (.cells ((eaA (fun x _ => zmod x) p q k).map ei).toArray 50 (0, 0)) ∧ w.heap[b6]? = some (.cells ((q).map ei).toArray 50 (0, 0)) ∧ w.heap[b8]? = some (.cells ((List.replicate 256 (0 : Int)).map ei).toArray 50 (0, 0)) ∧ True) [10] [0, 1, 2, 3, 4, 5, 6, 7, 9] [0, 1, 2, 3, 4, 5, 6, 7, 8, 9, 10] mixed (by kernel_rfl) (fun w hg => ⟨keepB0 hg hB, keepO0 hg hb4, keepO0 hg hb6, keepO0 hg hb8, trivial⟩) ?_
  intro w23 hg
  replace hB := keepB0 hg hB
  replace hb4 := keepO0 hg hb4
  replace hb6 := keepO0 hg hb6
  replace hb8 := keepO0 hg hb8
  refine c6 ha rfl (cmv rfl) (cmv rfl) (cmv rfl) (fun w _ _ ha => r_indexArr (i := k) ha k Tryz.runUnderlying50 Tryz.sizeOf3 rfl rfl (by omega) (by omega)) (fun w ⟨_, hb4, _⟩ _ ha => r_load ha rfl Tryz.isAgg3 (cell_of hb4 (get_map ei (eaA (fun x _ => zmod x) p q k) 0 k (by rw [eaA_len, hp]; omega)))) (cmv rfl) ?_; intro a ha
  refine c2 ha rfl (fun w _ _ ha => r_indexArr (i := k) ha k Tryz.runUnderlying50 Tryz.sizeOf3 rfl rfl (by omega) (by omega)) (fun w ⟨_, _, hb6, _⟩ _ ha => r_load ha rfl Tryz.isAgg3 (cell_of hb6 (get_map ei q 0 k (by rw [hq]; omega)))) ?_; intro a ha
  refine cc ha rfl rfl (r_callV ha (cap := #[]) [ei ((eaA (fun x _ => zmod x) p q k).getD k 0), ei (q.getD k 0)] rfl rfl Tryz.call115) rfl rfl rfl (c_doClean ((eaA (fun x _ => zmod x) p q k).getD k 0) (q.getD k 0) _ ) ?_
  rintro e w24 ⟨rfl, hBc⟩
  have hg := grown_call hBc
  replace hB := keepB0 hg hB
  replace hb4 := keepO0 hg hb4
  replace hb6 := keepO0 hg hb6
  replace hb8 := keepO0 hg hb8
  refine ⟨fun _ => ⟨hB, hb4, hb6, hb8, trivial⟩, _, rfl, ?_⟩; intro a ha
  refine c1 ha rfl (fun w _ _ ha => r_indexArr (i := k) ha k Tryz.runUnderlying50 Tryz.sizeOf3 rfl rfl (by omega) (by omega)) ?_; intro a ha
  refine cstore ha rfl rfl (v := ei ((zmod ((eaA (fun x _ => zmod x) p q k).getD k 0) : Nat) : Int)) rfl rfl rfl rfl Tryz.sizeOf3 hb4 (by rw [List.length_map, eaA_len, hp]; omega) rfl ?_
  intro a w25 ha hg hb4'
  rw [set_map] at hb4'
  replace hb4 := hb4'
  replace hB := keepB1 hg (by omega) hB
  replace hb6 := keepO1 hg (by omega) hb6
  replace hb8 := keepO1 hg (by omega) hb8
  refine cfin (k20 _ _ ?_)
  refine region ?_
  refine s2 ha rfl (fun _ ha => rn_add ha k 1 rfl rfl (by omega)) (mv rfl) ?_; intro a ha
  exact ⟨k + 1, by omega, (by omega), ha.to [2, 3, 4, 6, 8] rfl, hB, hb4, hb6, hb8⟩
 ·skip
  replace hc18 := of_decide_eq_false hc18
  refine wp_exit ?_
  obtain rfl : k = 256 := by omega
  refine k10 _ _ ?_
  refine qr fun K26 k27 => ?_
  refine s1 ha rfl (fun _ ha => r_loadR ha rfl Tryz.isAgg50 Tryz.sizeOf50 (C := (eaA (fun x _ => zmod x) p q 256).map ei) (by rw [List.length_map, eaA_len, hp]) (cells_all hb4)) ?_; intro a ha
  refine sstoreW ha rfl rfl (one_ei _) Tryz.sizeOf50 (by rw [List.length_map, eaA_len, hp]) hb8 (by rw [List.length_map, List.length_replicate]) ?_
  intro a w28 ha hg hb8'
  replace hb8 := hb8'
  replace hB := keepB1 hg (by omega) hB
  replace hb4 := keepO1 hg (by omega) hb4
  refine k27 _ _ ?_
  refine wp_ret ?_
  exact retC _ ha Tryz.results92 rfl hb8 Tryz.underlying50 rfl (by rw [List.length_map, eaA_len, hp]; kernel_rfl) ⟨rfl, hB⟩

theorem c_eachPlus (p q : List Int) (w0 : World) (hp : p.length = 256) (hq : q.length = 256) :
    Calls Tryz.prog 92 #[.agg ((p).map ei).toArray, .agg ((q).map ei).toArray, .func (.func 96) #[] #[]] w0 fun e w' => e = .returned (.agg ((eaA zadd p q 256).map ei).toArray) ∧ Below w0.heap.size w0 w' := by
 refine enter (args := [_, _, _]) Tryz.func92 rfl Tryz.ntmps92 rfl ?_
 intro a ha
 have hB := Below.refl w0.heap.size w0
 refine qr fun K1 k2 => ?_
 refine sbox ha rfl rfl ?_
 intro a w3 b4 ha hg hb4 hge4 hlt4
 have hz4 := Nat.le_trans hB.size hge4
 replace hB := keepB0 hg hB
 refine sbox ha rfl rfl ?_
 intro a w5 b6 ha hg hb6 hge6 hlt6
 have hz6 := Nat.le_trans hB.size hge6
 have hq4_6 := bl hb4 hge6
 replace hB := keepB0 hg hB
 replace hb4 := keepO0 hg hb4
 refine salloc ha zero_50T1 rfl ?_
 intro a w7 b8 ha hg hb8 hge8 hlt8
 have hz8 := Nat.le_trans hB.size hge8
 have hq4_8 := bl hb4 hge8
 have hq6_8 := bl hb6 hge8
 replace hB := keepB0 hg hB
 replace hb4 := keepO0 hg hb4
 replace hb6 := keepO0 hg hb6
 refine k2 _ _ ?_
 refine wp_seq_k fun K9 k10 => ?_
 refine qr fun K11 k12 => ?_
 refine s1 ha rfl (mv rfl) ?_; intro a ha
 refine k12 _ _ ?_
 refine wp_block ?_
 refine loopG (fun (k : Nat) a w => (k ≤ 256) ∧ Has 23 [(2, .func (.func 96) #[] #[]), (3, .pointer (some ⟨b4, 0, none⟩)), (4, .pointer (some ⟨b6, 0, none⟩)), (6, .pointer (some ⟨b8, 0, none⟩)), (8, en k)] a ∧ Below w0.heap.size w0 w ∧ w.heap[b4]? = some (.cells ((eaA zadd p q k).map ei).toArray 50 (0, 0)) ∧ w.heap[b6]? = some (.cells ((q).map ei).toArray 50 (0, 0)) ∧ w.heap[b8]? = some (.cells ((List.replicate 256 (0 : Int)).map ei).toArray 50 (0, 0))) (fun k => 256 - k) 0 ⟨(by omega), ha.to [2, 3, 4, 6, 8] rfl, hB, hb4, hb6, hb8⟩ ?_
 clear ha a hB hb4 hb6 hb8
 intro k a w13 ⟨hkk, ha, hB, hb4, hb6, hb8⟩
 refine qr fun K14 k15 => ?_
 refine s1 ha rfl (fun _ ha => r_lss ha ((k : Nat) : Int) 256 (decide (k < 256)) rfl rfl (decide_eq_decide.2 (by omega))) ?_; intro a ha
 refine k15 _ _ ?_
 refine wp_seq_k fun K16 k17 => ?_
 refine cond_if ha rfl (fun hc18 => ?_) (fun hc18 => ?_)
 ·skip
  replace hc18 := of_decide_eq_true hc18
  refine wp_skip ?_
  refine k17 _ _ ?_
  refine wp_seq_k fun K19 k20 => ?_
  refine wp_block ?_
  refine qr fun K21 k22 => ?_
  refine s2 ha rfl (mv rfl) (av rfl) ?_; intro a ha
  refine k22 _ _ ?_
  refine regionD (S := fun w => Below w0.heap.size w0 w ∧ w.heap[b4]? = some (.cells ((eaA zadd p q k).map ei).toArray 50 (0, 0)) ∧ w.heap[b6]? = some (.cells ((q).map ei).toArray 50 (0, 0)) ∧ w.heap[b8]? = some (.cells ((List.replicate 256 (0 : Int)).map ei).toArray 50 (0, 0)) ∧ True) [10] [0, 1, 2, 3, 4, 5, 6, 7, 9] [0, 1, 2, 3, 4, 5, 6, 7, 8, 9, 10] mixed (by kernel_rfl) (fun w hg => ⟨keepB0 hg hB, keepO0 hg hb4, keepO0 hg hb6, keepO0 hg hb8, trivial⟩) ?_
  intro w23 hg
  replace hB := keepB0 hg hB
  replace hb4 := keepO0 hg hb4
  replace hb6 := keepO0 hg hb6
  replace hb8 := keepO0 hg hb8
  refine c6 ha rfl (cmv rfl) (cmv rfl) (cmv rfl) (fun w _ _ ha => r_indexArr (i := k) ha k Tryz.runUnderlying50 Tryz.sizeOf3 rfl rfl (by omega) (by omega)) (fun w ⟨_, hb4, _⟩ _ ha => r_load ha rfl Tryz.isAgg3 (cell_of hb4 (get_map ei (eaA zadd p q k) 0 k (by rw [eaA_len, hp]; omega)))) (cmv rfl) ?_; intro a ha
  refine c2 ha rfl (fun w _ _ ha => r_indexArr (i := k) ha k Tryz.runUnderlying50 Tryz.sizeOf3 rfl rfl (by omega) (by omega)) (fun w ⟨_, _, hb6, _⟩ _ ha => r_load ha rfl Tryz.isAgg3 (cell_of hb6 (get_map ei q 0 k (by rw [hq]; omega)))) ?_; intro a ha
  refine cc ha rfl rfl (r_callV ha (cap := #[]) [ei ((eaA zadd p q k).getD k 0), ei (q.getD k 0)] rfl rfl Tryz.call96) rfl rfl rfl (c_doPlus ((eaA zadd p q k).getD k 0) (q.getD k 0) _ ) ?_
  rintro e w24 ⟨rfl, hBc⟩
  have hg := grown_call hBc
  replace hB := keepB0 hg hB
  replace hb4 := keepO0 hg hb4
  replace hb6 := keepO0 hg hb6
  replace hb8 := keepO0 hg hb8
  refine ⟨fun _ => ⟨hB, hb4, hb6, hb8, trivial⟩, _, rfl, ?_⟩; intro a ha
  refine c1 ha rfl (fun w _ _ ha => r_indexArr (i := k) ha k Tryz.runUnderlying50 Tryz.sizeOf3 rfl rfl (by omega) (by omega)) ?_; intro a ha
  refine cstore ha rfl rfl (v := ei ((zadd ((eaA zadd p q k).getD k 0) (q.getD k 0) : Nat) : Int)) rfl rfl rfl rfl Tryz.sizeOf3 hb4 (by rw [List.length_map, eaA_len, hp]; omega) rfl ?_
  intro a w25 ha hg hb4'
  rw [set_map] at hb4'
  replace hb4 := hb4'
  replace hB := keepB1 hg (by omega) hB
  replace hb6 := keepO1 hg (by omega) hb6
  replace hb8 := keepO1 hg (by omega) hb8
  refine cfin (k20 _ _ ?_)
  refine region ?_
  refine s2 ha rfl (fun _ ha => rn_add ha k 1 rfl rfl (by omega)) (mv rfl) ?_; intro a ha
  exact ⟨k + 1, by omega, (by omega), ha.to [2, 3, 4, 6, 8] rfl, hB, hb4, hb6, hb8⟩
 ·skip
  replace hc18 := of_decide_eq_false hc18
  refine wp_exit ?_
  obtain rfl : k = 256 := by omega
  refine k10 _ _ ?_
  refine qr fun K26 k27 => ?_
  refine s1 ha rfl (fun _ ha => r_loadR ha rfl Tryz.isAgg50 Tryz.sizeOf50 (C := (eaA zadd p q 256).map ei) (by rw [List.length_map, eaA_len, hp]) (cells_all hb4)) ?_; intro a ha
  refine sstoreW ha rfl rfl (one_ei _) Tryz.sizeOf50 (by rw [List.length_map, eaA_len, hp]) hb8 (by rw [List.length_map, List.length_replicate]) ?_
  intro a w28 ha hg hb8'
  replace hb8 := hb8'
  replace hB := keepB1 hg (by omega) hB
  replace hb4 := keepO1 hg (by omega) hb4
  refine k27 _ _ ?_
  refine wp_ret ?_
  exact retC _ ha Tryz.results92 rfl hb8 Tryz.underlying50 rfl (by rw [List.length_map, eaA_len, hp]; kernel_rfl) ⟨rfl, hB⟩

theorem c_eachMinus (p q : List Int) (w0 : World) (hp : p.length = 256) (hq : q.length = 256) :
    Calls Tryz.prog 92 #[.agg ((p).map ei).toArray, .agg ((q).map ei).toArray, .func (.func 103) #[] #[]] w0 fun e w' => e = .returned (.agg ((eaA zsub p q 256).map ei).toArray) ∧ Below w0.heap.size w0 w' := by
 refine enter (args := [_, _, _]) Tryz.func92 rfl Tryz.ntmps92 rfl ?_
 intro a ha
 have hB := Below.refl w0.heap.size w0
 refine qr fun K1 k2 => ?_
 refine sbox ha rfl rfl ?_
 intro a w3 b4 ha hg hb4 hge4 hlt4
 have hz4 := Nat.le_trans hB.size hge4
 replace hB := keepB0 hg hB
 refine sbox ha rfl rfl ?_
 intro a w5 b6 ha hg hb6 hge6 hlt6
 have hz6 := Nat.le_trans hB.size hge6
 have hq4_6 := bl hb4 hge6
 replace hB := keepB0 hg hB
 replace hb4 := keepO0 hg hb4
 refine salloc ha zero_50T1 rfl ?_
 intro a w7 b8 ha hg hb8 hge8 hlt8
 have hz8 := Nat.le_trans hB.size hge8
 have hq4_8 := bl hb4 hge8
 have hq6_8 := bl hb6 hge8
 replace hB := keepB0 hg hB
 replace hb4 := keepO0 hg hb4
 replace hb6 := keepO0 hg hb6
 refine k2 _ _ ?_
 refine wp_seq_k fun K9 k10 => ?_
 refine qr fun K11 k12 => ?_
 refine s1 ha rfl (mv rfl) ?_; intro a ha
 refine k12 _ _ ?_
 refine wp_block ?_
 refine loopG (fun (k : Nat) a w => (k ≤ 256) ∧ Has 23 [(2, .func (.func 103) #[] #[]), (3, .pointer (some ⟨b4, 0, none⟩)), (4, .pointer (some ⟨b6, 0, none⟩)), (6, .pointer (some ⟨b8, 0, none⟩)), (8, en k)] a ∧ Below w0.heap.size w0 w ∧ w.heap[b4]? = some (.cells ((eaA zsub p q k).map ei).toArray 50 (0, 0)) ∧ w.heap[b6]? = some (.cells ((q).map ei).toArray 50 (0, 0)) ∧ w.heap[b8]? = some (.cells ((List.replicate 256 (0 : Int)).map ei).toArray 50 (0, 0))) (fun k => 256 - k) 0 ⟨(by omega), ha.to [2, 3, 4, 6, 8] rfl, hB, hb4, hb6, hb8⟩ ?_
 clear ha a hB hb4 hb6 hb8
 intro k a w13 ⟨hkk, ha, hB, hb4, hb6, hb8⟩
 refine qr fun K14 k15 => ?_
 refine s1 ha rfl (fun _ ha => r_lss ha ((k : Nat) : Int) 256 (decide (k < 256)) rfl rfl (decide_eq_decide.2 (by omega))) ?_; intro a ha
 refine k15 _ _ ?_
 refine wp_seq_k fun K16 k17 => ?_
 refine cond_if ha rfl (fun hc18 => ?_) (fun hc18 => ?_)
 ·skip
  replace hc18 := of_decide_eq_true hc18
  refine wp_skip ?_
  refine k17 _ _ ?_
  refine wp_seq_k fun K19 k20 => ?_
  refine wp_block ?_
  refine qr fun K21 k22 => ?_
  refine s2 ha rfl (mv rfl) (av rfl) ?_; intro a ha
  refine k22 _ _ ?_
  refine regionD (S := fun w => Below w0.heap.size w0 w ∧ w.heap[b4]? = some (.cells ((eaA zsub p q k).map ei).toArray 50 (0, 0)) ∧ w.heap[b6]? = some (.cells ((q).map ei).toArray 50 (0, 0)) ∧ w.heap[b8]? = some (.cells ((List.replicate 256 (0 : Int)).map ei).toArray 50 (0, 0)) ∧ True) [10] [0, 1, 2, 3, 4, 5, 6, 7, 9] [0, 1, 2, 3, 4, 5, 6, 7, 8, 9, 10] mixed (by kernel_rfl) (fun w hg => ⟨keepB0 hg hB, keepO0 hg hb4, keepO0 hg hb6, keepO0 hg hb8, trivial⟩) ?_
  intro w23 hg
  replace hB := keepB0 hg hB
  replace hb4 := keepO0 hg hb4
  replace hb6 := keepO0 hg hb6
  replace hb8 := keepO0 hg hb8
  refine c6 ha rfl (cmv rfl) (cmv rfl) (cmv rfl) (fun w _ _ ha => r_indexArr (i := k) ha k Tryz.runUnderlying50 Tryz.sizeOf3 rfl rfl (by omega) (by omega)) (fun w ⟨_, hb4, _⟩ _ ha => r_load ha rfl Tryz.isAgg3 (cell_of hb4 (get_map ei (eaA zsub p q k) 0 k (by rw [eaA_len, hp]; omega)))) (cmv rfl) ?_; intro a ha
  refine c2 ha rfl (fun w _ _ ha => r_indexArr (i := k) ha k Tryz.runUnderlying50 Tryz.sizeOf3 rfl rfl (by omega) (by omega)) (fun w ⟨_, _, hb6, _⟩ _ ha => r_load ha rfl Tryz.isAgg3 (cell_of hb6 (get_map ei q 0 k (by rw [hq]; omega)))) ?_; intro a ha
  refine cc ha rfl rfl (r_callV ha (cap := #[]) [ei ((eaA zsub p q k).getD k 0), ei (q.getD k 0)] rfl rfl Tryz.call103) rfl rfl rfl (c_doMinus ((eaA zsub p q k).getD k 0) (q.getD k 0) _ ) ?_
  rintro e w24 ⟨rfl, hBc⟩
  have hg := grown_call hBc
  replace hB := keepB0 hg hB
  replace hb4 := keepO0 hg hb4
  replace hb6 := keepO0 hg hb6
  replace hb8 := keepO0 hg hb8
  refine ⟨fun _ => ⟨hB, hb4, hb6, hb8, trivial⟩, _, rfl, ?_⟩; intro a ha
  refine c1 ha rfl (fun w _ _ ha => r_indexArr (i := k) ha k Tryz.runUnderlying50 Tryz.sizeOf3 rfl rfl (by omega) (by omega)) ?_; intro a ha
  refine cstore ha rfl rfl (v := ei ((zsub ((eaA zsub p q k).getD k 0) (q.getD k 0) : Nat) : Int)) rfl rfl rfl rfl Tryz.sizeOf3 hb4 (by rw [List.length_map, eaA_len, hp]; omega) rfl ?_
  intro a w25 ha hg hb4'
  rw [set_map] at hb4'
  replace hb4 := hb4'
  replace hB := keepB1 hg (by omega) hB
  replace hb6 := keepO1 hg (by omega) hb6
  replace hb8 := keepO1 hg (by omega) hb8
  refine cfin (k20 _ _ ?_)
  refine region ?_
  refine s2 ha rfl (fun _ ha => rn_add ha k 1 rfl rfl (by omega)) (mv rfl) ?_; intro a ha
  exact ⟨k + 1, by omega, (by omega), ha.to [2, 3, 4, 6, 8] rfl, hB, hb4, hb6, hb8⟩
 ·skip
  replace hc18 := of_decide_eq_false hc18
  refine wp_exit ?_
  obtain rfl : k = 256 := by omega
  refine k10 _ _ ?_
  refine qr fun K26 k27 => ?_
  refine s1 ha rfl (fun _ ha => r_loadR ha rfl Tryz.isAgg50 Tryz.sizeOf50 (C := (eaA zsub p q 256).map ei) (by rw [List.length_map, eaA_len, hp]) (cells_all hb4)) ?_; intro a ha
  refine sstoreW ha rfl rfl (one_ei _) Tryz.sizeOf50 (by rw [List.length_map, eaA_len, hp]) hb8 (by rw [List.length_map, List.length_replicate]) ?_
  intro a w28 ha hg hb8'
  replace hb8 := hb8'
  replace hB := keepB1 hg (by omega) hB
  replace hb4 := keepO1 hg (by omega) hb4
  refine k27 _ _ ?_
  refine wp_ret ?_
  exact retC _ ha Tryz.results92 rfl hb8 Tryz.underlying50 rfl (by rw [List.length_map, eaA_len, hp]; kernel_rfl) ⟨rfl, hB⟩

theorem c_eachInverse (p q : List Int) (w0 : World) (hp : p.length = 256) (hq : q.length = 256) :
    Calls Tryz.prog 92 #[.agg ((p).map ei).toArray, .agg ((q).map ei).toArray, .func (.func 93) #[] #[]] w0 fun e w' => e = .returned (.agg ((eaA (fun x _ => zmul x 3303) p q 256).map ei).toArray) ∧ Below w0.heap.size w0 w' := by
 refine enter (args := [_, _, _]) Tryz.func92 rfl Tryz.ntmps92 rfl ?_
 intro a ha
 have hB := Below.refl w0.heap.size w0
 refine qr fun K1 k2 => ?_
 refine sbox ha rfl rfl ?_
 intro a w3 b4 ha hg hb4 hge4 hlt4
 have hz4 := Nat.le_trans hB.size hge4
 replace hB := keepB0 hg hB
 refine sbox ha rfl rfl ?_
 intro a w5 b6 ha hg hb6 hge6 hlt6
 have hz6 := Nat.le_trans hB.size hge6
 have hq4_6 := bl hb4 hge6
 replace hB := keepB0 hg hB
 replace hb4 := keepO0 hg hb4
 refine salloc ha zero_50T1 rfl ?_
 intro a w7 b8 ha hg hb8 hge8 hlt8
 have hz8 := Nat.le_trans hB.size hge8
 have hq4_8 := bl hb4 hge8
 have hq6_8 := bl hb6 hge8
 replace hB := keepB0 hg hB
 replace hb4 := keepO0 hg hb4
 replace hb6 := keepO0 hg hb6
 refine k2 _ _ ?_
 refine wp_seq_k fun K9 k10 => ?_
 refine qr fun K11 k12 => ?_
 refine s1 ha rfl (mv rfl) ?_; intro a ha
 refine k12 _ _ ?_
 refine wp_block ?_
 refine loopG (fun (k : Nat) a w => (k ≤ 256) ∧ Has 23 [(2, .func (.func 93) #[] #[]), (3, .pointer (some ⟨b4, 0, none⟩)), (4, .pointer (some ⟨b6, 0, none⟩)), (6, .pointer (some ⟨b8, 0, none⟩)), (8, en k)] a ∧ Below w0.heap.size w0 w ∧ w.heap[b4]? = some (.cells ((eaA (fun x _ => zmul x 3303) p q k).map ei).toArray 50 (0, 0)) ∧ w.heap[b6]? = some (.cells ((q).map ei).toArray 50 (0, 0)) ∧ w.heap[b8]? = some (.cells ((List.replicate 256 (0 : Int)).map ei).toArray 50 (0, 0))) (fun k => 256 - k) 0 ⟨(by omega), ha.to [2, 3, 4, 6, 8] rfl, hB, hb4, hb6, hb8⟩ ?_
 clear ha a hB hb4 hb6 hb8
 intro k a w13 ⟨hkk, ha, hB, hb4, hb6, hb8⟩
 refine qr fun K14 k15 => ?_
 refine s1 ha rfl (fun _ ha => r_lss ha ((k : Nat) : Int) 256 (decide (k < 256)) rfl rfl (decide_eq_decide.2 (by omega))) ?_; intro a ha
 refine k15 _ _ ?_
 refine wp_seq_k fun K16 k17 => ?_
 refine cond_if ha rfl (fun hc18 => ?_) (fun hc18 => ?_)
 ·skip
  replace hc18 := of_decide_eq_true hc18
  refine wp_skip ?_
  refine k17 _ _ ?_
  refine wp_seq_k fun K19 k20 => ?_
  refine wp_block ?_
  refine qr fun K21 k22 => ?_
  refine s2 ha rfl (mv rfl) (av rfl) ?_; intro a ha
  refine k22 _ _ ?_
  refine regionD (S := fun w => Below w0.heap.size w0 w ∧ w.heap[b4]? = some (.cells ((eaA (fun x _ => zmul x 3303) p q k).map ei).toArray 50 (0, 0)) ∧ w.heap[b6]? = some (.cells ((q).map ei).toArray 50 (0, 0)) ∧ w.heap[b8]? = some (.cells ((List.replicate 256 (0 : Int)).map ei).toArray 50 (0, 0)) ∧ True) [10] [0, 1, 2, 3, 4, 5, 6, 7, 9] [0, 1, 2, 3, 4, 5, 6, 7, 8, 9, 10] mixed (by kernel_rfl) (fun w hg => ⟨keepB0 hg hB, keepO0 hg hb4, keepO0 hg hb6, keepO0 hg hb8, trivial⟩) ?_
  intro w23 hg
  replace hB := keepB0 hg hB
  replace hb4 := keepO0 hg hb4
  replace hb6 := keepO0 hg hb6
  replace hb8 := keepO0 hg hb8
  refine c6 ha rfl (cmv rfl) (cmv rfl) (cmv rfl) (fun w _ _ ha => r_indexArr (i := k) ha k Tryz.runUnderlying50 Tryz.sizeOf3 rfl rfl (by omega) (by omega)) (fun w ⟨_, hb4, _⟩ _ ha => r_load ha rfl Tryz.isAgg3 (cell_of hb4 (get_map ei (eaA (fun x _ => zmul x 3303) p q k) 0 k (by rw [eaA_len, hp]; omega)))) (cmv rfl) ?_; intro a ha
  refine c2 ha rfl (fun w _ _ ha => r_indexArr (i := k) ha k Tryz.runUnderlying50 Tryz.sizeOf3 rfl rfl (by omega) (by omega)) (fun w ⟨_, _, hb6, _⟩ _ ha => r_load ha rfl Tryz.isAgg3 (cell_of hb6 (get_map ei q 0 k (by rw [hq]; omega)))) ?_; intro a ha
  refine cc ha rfl rfl (r_callV ha (cap := #[]) [ei ((eaA (fun x _ => zmul x 3303) p q k).getD k 0), ei (q.getD k 0)] rfl rfl Tryz.call93) rfl rfl rfl (c_doInverse ((eaA (fun x _ => zmul x 3303) p q k).getD k 0) (q.getD k 0) _ ) ?_
  rintro e w24 ⟨rfl, hBc⟩
  have hg := grown_call hBc
  replace hB := keepB0 hg hB
  replace hb4 := keepO0 hg hb4
  replace hb6 := keepO0 hg hb6
  replace hb8 := keepO0 hg hb8
  refine ⟨fun _ => ⟨hB, hb4, hb6, hb8, trivial⟩, _, rfl, ?_⟩; intro a ha
  refine c1 ha rfl (fun w _ _ ha => r_indexArr (i := k) ha k Tryz.runUnderlying50 Tryz.sizeOf3 rfl rfl (by omega) (by omega)) ?_; intro a ha
  refine cstore ha rfl rfl (v := ei ((zmul ((eaA (fun x _ => zmul x 3303) p q k).getD k 0) 3303 : Nat) : Int)) rfl rfl rfl rfl Tryz.sizeOf3 hb4 (by rw [List.length_map, eaA_len, hp]; omega) rfl ?_
  intro a w25 ha hg hb4'
  rw [set_map] at hb4'
  replace hb4 := hb4'
  replace hB := keepB1 hg (by omega) hB
  replace hb6 := keepO1 hg (by omega) hb6
  replace hb8 := keepO1 hg (by omega) hb8
  refine cfin (k20 _ _ ?_)
  refine region ?_
  refine s2 ha rfl (fun _ ha => rn_add ha k 1 rfl rfl (by omega)) (mv rfl) ?_; intro a ha
  exact ⟨k + 1, by omega, (by omega), ha.to [2, 3, 4, 6, 8] rfl, hB, hb4, hb6, hb8⟩
 ·skip
  replace hc18 := of_decide_eq_false hc18
  refine wp_exit ?_
  obtain rfl : k = 256 := by omega
  refine k10 _ _ ?_
  refine qr fun K26 k27 => ?_
  refine s1 ha rfl (fun _ ha => r_loadR ha rfl Tryz.isAgg50 Tryz.sizeOf50 (C := (eaA (fun x _ => zmul x 3303) p q 256).map ei) (by rw [List.length_map, eaA_len, hp]) (cells_all hb4)) ?_; intro a ha
  refine sstoreW ha rfl rfl (one_ei _) Tryz.sizeOf50 (by rw [List.length_map, eaA_len, hp]) hb8 (by rw [List.length_map, List.length_replicate]) ?_
  intro a w28 ha hg hb8'
  replace hb8 := hb8'
  replace hB := keepB1 hg (by omega) hB
  replace hb4 := keepO1 hg (by omega) hb4
  refine k27 _ _ ?_
  refine wp_ret ?_
  exact retC _ ha Tryz.results92 rfl hb8 Tryz.underlying50 rfl (by rw [List.length_map, eaA_len, hp]; kernel_rfl) ⟨rfl, hB⟩

theorem c_clean (p : List Int) (w0 : World) (hp : p.length = 256) :
    Calls Tryz.prog 83 #[.agg ((p).map ei).toArray] w0 fun e w' => e = .returned (.agg ((cl p).map ei).toArray) ∧ Below w0.heap.size w0 w' := by
 refine enter (args := [_]) Tryz.func83 rfl Tryz.ntmps83 rfl ?_
 intro a ha
 have hB := Below.refl w0.heap.size w0
 refine qr fun K1 k2 => ?_
 refine sbox ha rfl rfl ?_
 intro a w3 b4 ha hg hb4 hge4 hlt4
 have hz4 := Nat.le_trans hB.size hge4
 replace hB := keepB0 hg hB
 refine salloc ha zero_50T1 rfl ?_
 intro a w5 b6 ha hg hb6 hge6 hlt6
 have hz6 := Nat.le_trans hB.size hge6
 have hq4_6 := bl hb4 hge6
 replace hB := keepB0 hg hB
 replace hb4 := keepO0 hg hb4
 refine k2 _ _ ?_
 refine qr fun K7 k8 => ?_
 refine s2 ha rfl (fun _ ha => r_loadR ha rfl Tryz.isAgg50 Tryz.sizeOf50 (C := (p).map ei) (by rw [List.length_map, hp]) (cells_all hb4)) (fun _ ha => r_loadR ha rfl Tryz.isAgg50 Tryz.sizeOf50 (C := (p).map ei) (by rw [List.length_map, hp]) (cells_all hb4)) ?_; intro a ha
 refine scp ha (r_call ha [.agg ((p).map ei).toArray, .agg ((p).map ei).toArray, .func (.func 115) #[] #[]] rfl Tryz.call92) rfl rfl rfl (c_eachClean p p _ (by rw [hp]) (by rw [hp])) ?_; intro w9 hg a ha
 replace hB := keepB0 hg hB
 replace hb6 := keepO0 hg hb6
 refine sstoreW ha rfl rfl (one_ei _) Tryz.sizeOf50 (by rw [List.length_map, eaA_len, hp]) hb6 (by rw [List.length_map, List.length_replicate]) ?_
 intro a w10 ha hg hb6'
 replace hb6 := hb6'
 replace hB := keepB1 hg (by omega) hB
 refine k8 _ _ ?_
 refine wp_ret ?_
 exact retC _ ha Tryz.results83 rfl hb6 Tryz.underlying50 rfl (by rw [List.length_map, eaA_len, hp]; kernel_rfl) ⟨rfl, hB⟩

theorem c_plus (p q : List Int) (w0 : World) (hp : p.length = 256) (hq : q.length = 256) :
    Calls Tryz.prog 46 #[.agg ((p).map ei).toArray, .agg ((q).map ei).toArray] w0 fun e w' => e = .returned (.agg ((pl p q).map ei).toArray) ∧ Below w0.heap.size w0 w' := by
 refine enter (args := [_, _]) Tryz.func46 rfl Tryz.ntmps46 rfl ?_
 intro a ha
 have hB := Below.refl w0.heap.size w0
 refine qr fun K1 k2 => ?_
 refine sbox ha rfl rfl ?_
 intro a w3 b4 ha hg hb4 hge4 hlt4
 have hz4 := Nat.le_trans hB.size hge4
 replace hB := keepB0 hg hB
 refine sbox ha rfl rfl ?_
 intro a w5 b6 ha hg hb6 hge6 hlt6
 have hz6 := Nat.le_trans hB.size hge6
 have hq4_6 := bl hb4 hge6
 replace hB := keepB0 hg hB
 replace hb4 := keepO0 hg hb4
 refine salloc ha zero_50T1 rfl ?_
 intro a w7 b8 ha hg hb8 hge8 hlt8
 have hz8 := Nat.le_trans hB.size hge8
 have hq4_8 := bl hb4 hge8
 have hq6_8 := bl hb6 hge8
 replace hB := keepB0 hg hB
 replace hb4 := keepO0 hg hb4
 replace hb6 := keepO0 hg hb6
 refine k2 _ _ ?_
 refine qr fun K9 k10 => ?_
 refine s2 ha rfl (fun _ ha => r_loadR ha rfl Tryz.isAgg50 Tryz.sizeOf50 (C := (p).map ei) (by rw [List.length_map, hp]) (cells_all hb4)) (fun _ ha => r_loadR ha rfl Tryz.isAgg50 Tryz.sizeOf50 (C := (q).map ei) (by rw [List.length_map, hq]) (cells_all hb6)) ?_; intro a ha
 refine scp ha (r_call ha [.agg ((p).map ei).toArray, .agg ((q).map ei).toArray, .func (.func 96) #[] #[]] rfl Tryz.call92) rfl rfl rfl (c_eachPlus p q _ (by rw [hp]) (by rw [hq])) ?_; intro w11 hg a ha
 replace hB := keepB0 hg hB
 replace hb8 := keepO0 hg hb8
 refine sstoreW ha rfl rfl (one_ei _) Tryz.sizeOf50 (by rw [List.length_map, eaA_len, hp]) hb8 (by rw [List.length_map, List.length_replicate]) ?_
 intro a w12 ha hg hb8'
 replace hb8 := hb8'
 replace hB := keepB1 hg (by omega) hB
 refine k10 _ _ ?_
 refine wp_ret ?_
 exact retC _ ha Tryz.results46 rfl hb8 Tryz.underlying50 rfl (by rw [List.length_map, eaA_len, hp]; kernel_rfl) ⟨rfl, hB⟩

theorem c_minus (p q : List Int) (w0 : World) (hp : p.length = 256) (hq : q.length = 256) :
    Calls Tryz.prog 61 #[.agg ((p).map ei).toArray, .agg ((q).map ei).toArray] w0 fun e w' => e = .returned (.agg ((mi p q).map ei).toArray) ∧ Below w0.heap.size w0 w' := by
 refine enter (args := [_, _]) Tryz.func61 rfl Tryz.ntmps61 rfl ?_
 intro a ha
 have hB := Below.refl w0.heap.size w0
 refine qr fun K1 k2 => ?_
 refine sbox ha rfl rfl ?_
 intro a w3 b4 ha hg hb4 hge4 hlt4
 have hz4 := Nat.le_trans hB.size hge4
 replace hB := keepB0 hg hB
 refine sbox ha rfl rfl ?_
 intro a w5 b6 ha hg hb6 hge6 hlt6
 have hz6 := Nat.le_trans hB.size hge6
 have hq4_6 := bl hb4 hge6
 replace hB := keepB0 hg hB
 replace hb4 := keepO0 hg hb4
 refine salloc ha zero_50T1 rfl ?_
 intro a w7 b8 ha hg hb8 hge8 hlt8
 have hz8 := Nat.le_trans hB.size hge8
 have hq4_8 := bl hb4 hge8
 have hq6_8 := bl hb6 hge8
 replace hB := keepB0 hg hB
 replace hb4 := keepO0 hg hb4
 replace hb6 := keepO0 hg hb6
 refine k2 _ _ ?_
 refine qr fun K9 k10 => ?_
 refine s2 ha rfl (fun _ ha => r_loadR ha rfl Tryz.isAgg50 Tryz.sizeOf50 (C := (p).map ei) (by rw [List.length_map, hp]) (cells_all hb4)) (fun _ ha => r_loadR ha rfl Tryz.isAgg50 Tryz.sizeOf50 (C := (q).map ei) (by rw [List.length_map, hq]) (cells_all hb6)) ?_; intro a ha
 refine scp ha (r_call ha [.agg ((p).map ei).toArray, .agg ((q).map ei).toArray, .func (.func 103) #[] #[]] rfl Tryz.call92) rfl rfl rfl (c_eachMinus p q _ (by rw [hp]) (by rw [hq])) ?_; intro w11 hg a ha
 replace hB := keepB0 hg hB
 replace hb8 := keepO0 hg hb8
 refine sstoreW ha rfl rfl (one_ei _) Tryz.sizeOf50 (by rw [List.length_map, eaA_len, hp]) hb8 (by rw [List.length_map, List.length_replicate]) ?_
 intro a w12 ha hg hb8'
 replace hb8 := hb8'
 replace hB := keepB1 hg (by omega) hB
 refine k10 _ _ ?_
 refine wp_ret ?_
 exact retC _ ha Tryz.results61 rfl hb8 Tryz.underlying50 rfl (by rw [List.length_map, eaA_len, hp]; kernel_rfl) ⟨rfl, hB⟩

theorem c_fwd (p : List Int) (w0 : World) (hp : p.length = 256) (hP : GlobP w0) :
    Calls Tryz.prog 39 #[.agg ((p).map ei).toArray] w0 fun e w' => e = .returned (.agg ((fwd p).map ei).toArray) ∧ Below w0.heap.size w0 w' := by
 refine enter (args := [_]) Tryz.func39 rfl Tryz.ntmps39 rfl ?_
 intro a ha
 have hB := Below.refl w0.heap.size w0
 refine qr fun K1 k2 => ?_
 refine sbox ha rfl rfl ?_
 intro a w3 b4 ha hg hb4 hge4 hlt4
 have hz4 := Nat.le_trans hB.size hge4
 replace hB := keepB0 hg hB
 refine salloc ha zero_50T1 rfl ?_
 intro a w5 b6 ha hg hb6 hge6 hlt6
 have hz6 := Nat.le_trans hB.size hge6
 have hq4_6 := bl hb4 hge6
 replace hB := keepB0 hg hB
 replace hb4 := keepO0 hg hb4
 refine k2 _ _ ?_
 refine qr fun K7 k8 => ?_
 refine s1 ha rfl (fun _ ha => r_loadR ha rfl Tryz.isAgg50 Tryz.sizeOf50 (C := (p).map ei) (by rw [List.length_map, hp]) (cells_all hb4)) ?_; intro a ha
 refine scp ha (r_call ha [.agg ((p).map ei).toArray] rfl Tryz.call83) rfl rfl rfl (c_clean p _ (by rw [hp])) ?_; intro w9 hg a ha
 replace hB := keepB0 hg hB
 replace hb4 := keepO0 hg hb4
 replace hb6 := keepO0 hg hb6
 refine sstoreW ha rfl rfl (one_ei _) Tryz.sizeOf50 (by rw [List.length_map, (cl_red _ (by rw [hp])).len]) hb4 (by rw [List.length_map, hp]) ?_
 intro a w10 ha hg hb4'
 replace hb4 := hb4'
 replace hB := keepB1 hg (by omega) hB
 replace hb6 := keepO1 hg (by omega) hb6
 refine k8 _ _ ?_
 refine qr fun K11 k12 => ?_
 refine s1 ha rfl (av rfl) ?_; intro a ha
 refine k12 _ _ ?_
 refine wp_seq_k fun K13 k14 => ?_
 refine qr fun K15 k16 => ?_
 refine s1 ha rfl (av rfl) ?_; intro a ha
 refine k16 _ _ ?_
 refine wp_block ?_
 refine loopG (fun (i : Nat) a w => (i ≤ 7) ∧ Has 57 [(1, .pointer (some ⟨b4, 0, none⟩)), (2, .pointer (some ⟨b6, 0, none⟩)), (3, en (kF i)), (4, en (lenF i))] a ∧ Below w0.heap.size w0 w ∧ w.heap[b4]? = some (.cells ((fwL p i).map ei).toArray 50 (0, 0)) ∧ w.heap[b6]? = some (.cells ((List.replicate 256 (0 : Int)).map ei).toArray 50 (0, 0))) (fun i => 7 - i) 0 ⟨(by omega), ha.to [1, 2, 3, 4] rfl, hB, hb4, hb6⟩ ?_
 clear ha a hB hb4 hb6
 intro i a w17 ⟨hki, ha, hB, hb4, hb6⟩
 have hFe := F_end i (by omega)
 refine wp_seq_k fun K18 k19 => ?_
 refine qr fun K20 k21 => ?_
 refine s2 ha rfl (mv rfl) (fun _ ha => r_geq ha ((lenF i : Nat) : Int) 2 (decide (lenF i ≥ 2)) rfl rfl (decide_eq_decide.2 (by omega))) ?_; intro a ha
 refine k21 _ _ ?_
 refine cond_if ha rfl (fun hc22 => ?_) (fun hc22 => ?_)
 ·skip
  replace hc22 := of_decide_eq_true hc22
  refine wp_skip ?_
  refine k19 _ _ ?_
  refine wp_seq_k fun K23 k24 => ?_
  refine wp_block ?_
  refine qr fun K25 k26 => ?_
  refine s1 ha rfl (av rfl) ?_; intro a ha
  refine k26 _ _ ?_
  refine wp_block ?_
  have hF := F_facts i (by omega)
  refine loopG (fun (b : Nat) a w => (b ≤ (nbF i)) ∧ Has 57 [(1, .pointer (some ⟨b4, 0, none⟩)), (2, .pointer (some ⟨b6, 0, none⟩)), (4, en (lenF i)), (5, en (2 * lenF i * b)), (3, en (kF i + b))] a ∧ Below w0.heap.size w0 w ∧ w.heap[b4]? = some (.cells ((fwS i (fwL p i) b).map ei).toArray 50 (0, 0)) ∧ w.heap[b6]? = some (.cells ((List.replicate 256 (0 : Int)).map ei).toArray 50 (0, 0))) (fun b => (nbF i) - b) 0 ⟨(by omega), ha.to [1, 2, 4, 5, 3] rfl, hB, hb4, hb6⟩ ?_
  clear ha a hB hb4 hb6
  intro b a w27 ⟨hkb, ha, hB, hb4, hb6⟩
  have hbk := blkF (lenF i) (nbF i) b hF.1 hF.2.1
  refine wp_seq_k fun K28 k29 => ?_
  refine qr fun K30 k31 => ?_
  refine s2 ha rfl (mv rfl) (fun _ ha => r_lss ha ((2 * lenF i * b : Nat) : Int) 256 (decide (2 * lenF i * b < 256)) rfl rfl (decide_eq_decide.2 (by omega))) ?_; intro a ha
  refine k31 _ _ ?_
  refine cond_if ha rfl (fun hc32 => ?_) (fun hc32 => ?_)
  ·skip
   replace hc32 := of_decide_eq_true hc32
   refine wp_skip ?_
   refine k29 _ _ ?_
   refine wp_seq_k fun K33 k34 => ?_
   refine wp_block ?_
   refine qr fun K35 k36 => ?_
   refine s1 ha rfl (mv rfl) ?_; intro a ha
   refine scp ha (r_call ha [ei ((kF i + b : Nat) : Int)] rfl Tryz.call84) rfl rfl rfl (c_zeta ((kF i + b : Nat) : Int) _ (globP_keep hP hB)) ?_; intro w37 hg a ha
   replace hB := keepB0 hg hB
   replace hb4 := keepO0 hg hb4
   replace hb6 := keepO0 hg hb6
   refine s1 ha rfl (av rfl) ?_; intro a ha
   refine k36 _ _ ?_
   refine qr fun K38 k39 => ?_
   refine s3 ha rfl (mv rfl) (fun _ ha => rn_add ha (kF i + b) 1 rfl rfl (by omega)) (av rfl) ?_; intro a ha
   refine k39 _ _ ?_
   refine qr fun K40 k41 => ?_
   refine s2 ha rfl (mv rfl) (av rfl) ?_; intro a ha
   refine k41 _ _ ?_
   refine wp_block ?_
   refine loopG (fun (t : Nat) a w => (t ≤ (lenF i)) ∧ Has 57 [(1, .pointer (some ⟨b4, 0, none⟩)), (2, .pointer (some ⟨b6, 0, none⟩)), (4, en (lenF i)), (5, en (2 * lenF i * b)), (3, en ((kF i + b) + 1)), (6, en (zz ((kF i + b : Nat) : Int) 7)), (7, en (2 * lenF i * b + t))] a ∧ Below w0.heap.size w0 w ∧ w.heap[b4]? = some (.cells ((fwB ((zz ((kF i + b : Nat) : Int) 7 : Nat) : Int) (lenF i) (2 * lenF i * b) (fwS i (fwL p i) b) t).map ei).toArray 50 (0, 0)) ∧ w.heap[b6]? = some (.cells ((List.replicate 256 (0 : Int)).map ei).toArray 50 (0, 0))) (fun t => (lenF i) - t) 0 ⟨(by omega), ha.to [1, 2, 4, 5, 3, 6, 7] rfl, hB, hb4, hb6⟩ ?_
   clear ha a hB hb4 hb6
   intro t a w42 ⟨hkt, ha, hB, hb4, hb6⟩
   refine wp_seq_k fun K43 k44 => ?_
   refine qr fun K45 k46 => ?_
   refine s5 ha rfl (mv rfl) (mv rfl) (mv rfl) (fun _ ha => rn_add ha (2 * lenF i * b) (lenF i) rfl rfl (by omega)) (fun _ ha => r_lss ha ((2 * lenF i * b + t : Nat) : Int) (((2 * lenF i * b) + (lenF i) : Nat) : Int) (decide (2 * lenF i * b + t < (2 * lenF i * b) + (lenF i))) rfl rfl (decide_eq_decide.2 (by omega))) ?_; intro a ha
   refine k46 _ _ ?_
   refine cond_if ha rfl (fun hc47 => ?_) (fun hc47 => ?_)
   ·skip
    replace hc47 := of_decide_eq_true hc47
    refine wp_skip ?_
    refine k44 _ _ ?_
    refine wp_seq_k fun K48 k49 => ?_
    refine wp_block ?_
    refine qr fun K50 k51 => ?_
    refine s6 ha rfl (mv rfl) (mv rfl) (mv rfl) (fun _ ha => rn_add ha (2 * lenF i * b + t) (lenF i) rfl rfl (by omega)) (fun _ ha => r_indexArr (i := (2 * lenF i * b + t) + (lenF i)) ha ((2 * lenF i * b + t) + (lenF i)) Tryz.runUnderlying50 Tryz.sizeOf3 rfl rfl (by omega) (by omega)) (fun _ ha => r_load ha rfl Tryz.isAgg3 (cell_of hb4 (get_map ei (fwB ((zz ((kF i + b : Nat) : Int) 7 : Nat) : Int) (lenF i) (2 * lenF i * b) (fwS i (fwL p i) b) t) 0 ((2 * lenF i * b + t) + (lenF i)) (by rw [fwB_len, fwS_len, fwL_len, hp]; omega)))) ?_; intro a ha
    refine scp ha (r_call ha [ei ((zz ((kF i + b : Nat) : Int) 7 : Nat) : Int), ei ((fwB ((zz ((kF i + b : Nat) : Int) 7 : Nat) : Int) (lenF i) (2 * lenF i * b) (fwS i (fwL p i) b) t).getD ((2 * lenF i * b + t) + (lenF i)) 0)] rfl Tryz.call85) rfl rfl rfl (c_mul ((zz ((kF i + b : Nat) : Int) 7 : Nat) : Int) ((fwB ((zz ((kF i + b : Nat) : Int) 7 : Nat) : Int) (lenF i) (2 * lenF i * b) (fwS i (fwL p i) b) t).getD ((2 * lenF i * b + t) + (lenF i)) 0) _ ) ?_; intro w52 hg a ha
    replace hB := keepB0 hg hB
    replace hb4 := keepO0 hg hb4
    replace hb6 := keepO0 hg hb6
    refine s1 ha rfl (av rfl) ?_; intro a ha
    refine k51 _ _ ?_
    refine qr fun K53 k54 => ?_
    refine s6 ha rfl (mv rfl) (mv rfl) (fun _ ha => rn_add ha (2 * lenF i * b + t) (lenF i) rfl rfl (by omega)) (mv rfl) (fun _ ha => r_indexArr (i := 2 * lenF i * b + t) ha (2 * lenF i * b + t) Tryz.runUnderlying50 Tryz.sizeOf3 rfl rfl (by omega) (by omega)) (fun _ ha => r_load ha rfl Tryz.isAgg3 (cell_of hb4 (get_map ei (fwB ((zz ((kF i + b : Nat) : Int) 7 : Nat) : Int) (lenF i) (2 * lenF i * b) (fwS i (fwL p i) b) t) 0 (2 * lenF i * b + t) (by rw [fwB_len, fwS_len, fwL_len, hp]; omega)))) ?_; intro a ha
    refine s1 ha rfl (mv rfl) ?_; intro a ha
    refine scp ha (r_call ha [ei ((fwB ((zz ((kF i + b : Nat) : Int) 7 : Nat) : Int) (lenF i) (2 * lenF i * b) (fwS i (fwL p i) b) t).getD (2 * lenF i * b + t) 0), ei ((zmul ((zz ((kF i + b : Nat) : Int) 7 : Nat) : Int) ((fwB ((zz ((kF i + b : Nat) : Int) 7 : Nat) : Int) (lenF i) (2 * lenF i * b) (fwS i (fwL p i) b) t).getD ((2 * lenF i * b + t) + (lenF i)) 0) : Nat) : Int)] rfl Tryz.call86) rfl rfl rfl (c_sub ((fwB ((zz ((kF i + b : Nat) : Int) 7 : Nat) : Int) (lenF i) (2 * lenF i * b) (fwS i (fwL p i) b) t).getD (2 * lenF i * b + t) 0) ((zmul ((zz ((kF i + b : Nat) : Int) 7 : Nat) : Int) ((fwB ((zz ((kF i + b : Nat) : Int) 7 : Nat) : Int) (lenF i) (2 * lenF i * b) (fwS i (fwL p i) b) t).getD ((2 * lenF i * b + t) + (lenF i)) 0) : Nat) : Int) _ ) ?_; intro w55 hg a ha
    replace hB := keepB0 hg hB
    replace hb4 := keepO0 hg hb4
    replace hb6 := keepO0 hg hb6
    refine s1 ha rfl (fun _ ha => r_indexArr (i := (2 * lenF i * b + t) + (lenF i)) ha ((2 * lenF i * b + t) + (lenF i)) Tryz.runUnderlying50 Tryz.sizeOf3 rfl rfl (by omega) (by omega)) ?_; intro a ha
    refine sstore ha (v := ei ((zsub ((fwB ((zz ((kF i + b : Nat) : Int) 7 : Nat) : Int) (lenF i) (2 * lenF i * b) (fwS i (fwL p i) b) t).getD (2 * lenF i * b + t) 0) ((zmul ((zz ((kF i + b : Nat) : Int) 7 : Nat) : Int) ((fwB ((zz ((kF i + b : Nat) : Int) 7 : Nat) : Int) (lenF i) (2 * lenF i * b) (fwS i (fwL p i) b) t).getD ((2 * lenF i * b + t) + (lenF i)) 0) : Nat) : Int) : Nat) : Int)) rfl rfl rfl rfl Tryz.sizeOf3 hb4 (by rw [List.length_map, fwB_len, fwS_len, fwL_len, hp]; omega) ?_
    intro a w56 ha hg hb4'
    rw [set_map] at hb4'
    replace hb4 := hb4'
    replace hB := keepB1 hg (by omega) hB
    replace hb6 := keepO1 hg (by omega) hb6
    refine k54 _ _ ?_
    refine region ?_
    refine s5 ha rfl (mv rfl) (mv rfl) (fun _ ha => r_indexArr (i := 2 * lenF i * b + t) ha (2 * lenF i * b + t) Tryz.runUnderlying50 Tryz.sizeOf3 rfl rfl (by omega) (by omega)) (fun _ ha => r_load ha rfl Tryz.isAgg3 (cell_of hb4 (get_map ei ((fwB ((zz ((kF i + b : Nat) : Int) 7 : Nat) : Int) (lenF i) (2 * lenF i * b) (fwS i (fwL p i) b) t).set ((2 * lenF i * b + t) + (lenF i)) ((zsub ((fwB ((zz ((kF i + b : Nat) : Int) 7 : Nat) : Int) (lenF i) (2 * lenF i * b) (fwS i (fwL p i) b) t).getD (2 * lenF i * b + t) 0) ((zmul ((zz ((kF i + b : Nat) : Int) 7 : Nat) : Int) ((fwB ((zz ((kF i + b : Nat) : Int) 7 : Nat) : Int) (lenF i) (2 * lenF i * b) (fwS i (fwL p i) b) t).getD ((2 * lenF i * b + t) + (lenF i)) 0) : Nat) : Int) : Nat) : Int)) 0 (2 * lenF i * b + t) (by rw [List.length_set, fwB_len, fwS_len, fwL_len, hp]; omega)))) (mv rfl) ?_; intro a ha
    refine scp ha (r_call ha [ei (((fwB ((zz ((kF i + b : Nat) : Int) 7 : Nat) : Int) (lenF i) (2 * lenF i * b) (fwS i (fwL p i) b) t).set ((2 * lenF i * b + t) + (lenF i)) ((zsub ((fwB ((zz ((kF i + b : Nat) : Int) 7 : Nat) : Int) (lenF i) (2 * lenF i * b) (fwS i (fwL p i) b) t).getD (2 * lenF i * b + t) 0) ((zmul ((zz ((kF i + b : Nat) : Int) 7 : Nat) : Int) ((fwB ((zz ((kF i + b : Nat) : Int) 7 : Nat) : Int) (lenF i) (2 * lenF i * b) (fwS i (fwL p i) b) t).getD ((2 * lenF i * b + t) + (lenF i)) 0) : Nat) : Int) : Nat) : Int)).getD (2 * lenF i * b + t) 0), ei ((zmul ((zz ((kF i + b : Nat) : Int) 7 : Nat) : Int) ((fwB ((zz ((kF i + b : Nat) : Int) 7 : Nat) : Int) (lenF i) (2 * lenF i * b) (fwS i (fwL p i) b) t).getD ((2 * lenF i * b + t) + (lenF i)) 0) : Nat) : Int)] rfl Tryz.call87) rfl rfl rfl (c_add (((fwB ((zz ((kF i + b : Nat) : Int) 7 : Nat) : Int) (lenF i) (2 * lenF i * b) (fwS i (fwL p i) b) t).set ((2 * lenF i * b + t) + (lenF i)) ((zsub ((fwB ((zz ((kF i + b : Nat) : Int) 7 : Nat) : Int) (lenF i) (2 * lenF i * b) (fwS i (fwL p i) b) t).getD (2 * lenF i * b + t) 0) ((zmul ((zz ((kF i + b : Nat) : Int) 7 : Nat) : Int) ((fwB ((zz ((kF i + b : Nat) : Int) 7 : Nat) : Int) (lenF i) (2 * lenF i * b) (fwS i (fwL p i) b) t).getD ((2 * lenF i * b + t) + (lenF i)) 0) : Nat) : Int) : Nat) : Int)).getD (2 * lenF i * b + t) 0) ((zmul ((zz ((kF i + b : Nat) : Int) 7 : Nat) : Int) ((fwB ((zz ((kF i + b : Nat) : Int) 7 : Nat) : Int) (lenF i) (2 * lenF i * b) (fwS i (fwL p i) b) t).getD ((2 * lenF i * b + t) + (lenF i)) 0) : Nat) : Int) _ ) ?_; intro w57 hg a ha
    replace hB := keepB0 hg hB
    replace hb4 := keepO0 hg hb4
    replace hb6 := keepO0 hg hb6
    refine s1 ha rfl (fun _ ha => r_indexArr (i := 2 * lenF i * b + t) ha (2 * lenF i * b + t) Tryz.runUnderlying50 Tryz.sizeOf3 rfl rfl (by omega) (by omega)) ?_; intro a ha
    refine sstore ha (v := ei ((zadd (((fwB ((zz ((kF i + b : Nat) : Int) 7 : Nat) : Int) (lenF i) (2 * lenF i * b) (fwS i (fwL p i) b) t).set ((2 * lenF i * b + t) + (lenF i)) ((zsub ((fwB ((zz ((kF i + b : Nat) : Int) 7 : Nat) : Int) (lenF i) (2 * lenF i * b) (fwS i (fwL p i) b) t).getD (2 * lenF i * b + t) 0) ((zmul ((zz ((kF i + b : Nat) : Int) 7 : Nat) : Int) ((fwB ((zz ((kF i + b : Nat) : Int) 7 : Nat) : Int) (lenF i) (2 * lenF i * b) (fwS i (fwL p i) b) t).getD ((2 * lenF i * b + t) + (lenF i)) 0) : Nat) : Int) : Nat) : Int)).getD (2 * lenF i * b + t) 0) ((zmul ((zz ((kF i + b : Nat) : Int) 7 : Nat) : Int) ((fwB ((zz ((kF i + b : Nat) : Int) 7 : Nat) : Int) (lenF i) (2 * lenF i * b) (fwS i (fwL p i) b) t).getD ((2 * lenF i * b + t) + (lenF i)) 0) : Nat) : Int) : Nat) : Int)) rfl rfl rfl rfl Tryz.sizeOf3 hb4 (by rw [List.length_map, List.length_set, fwB_len, fwS_len, fwL_len, hp]; omega) ?_
    intro a w58 ha hg hb4'
    rw [set_map] at hb4'
    replace hb4 := hb4'
    replace hB := keepB1 hg (by omega) hB
    replace hb6 := keepO1 hg (by omega) hb6
    refine k49 _ _ ?_
    refine region ?_
    refine s3 ha rfl (mv rfl) (fun _ ha => rn_add ha (2 * lenF i * b + t) 1 rfl rfl (by omega)) (av rfl) ?_; intro a ha
    exact ⟨t + 1, by omega, (by omega), ha.to [1, 2, 4, 5, 3, 6, 7] rfl, hB, hb4, hb6⟩
   ·skip
    replace hc47 := of_decide_eq_false hc47
    refine wp_exit ?_
    obtain rfl : t = (lenF i) := by omega
    refine k34 _ _ ?_
    refine region ?_
    refine s5 ha rfl (mv rfl) (mv rfl) (fun _ ha => rn_mul ha 2 (lenF i) rfl rfl (by omega)) (fun _ ha => rn_add ha (2 * lenF i * b) (2 * (lenF i)) rfl rfl (by omega)) (av rfl) ?_; intro a ha
    exact ⟨b + 1, by omega, (by omega), ha.to [1, 2, 4, 5, 3] rfl, hB, hb4, hb6⟩
  ·skip
   replace hc32 := of_decide_eq_false hc32
   refine wp_exit ?_
   obtain rfl : b = (nbF i) := by omega
   refine k24 _ _ ?_
   refine region ?_
   refine s3 ha rfl (mv rfl) (fun _ ha => rn_quo ha (lenF i) 2 rfl rfl (by omega) (by omega)) (av rfl) ?_; intro a ha
   exact ⟨i + 1, by omega, (by omega), ha.to [1, 2, 3, 4] rfl, hB, hb4, hb6⟩
 ·skip
  replace hc22 := of_decide_eq_false hc22
  refine wp_exit ?_
  obtain rfl : i = 7 := by omega
  refine k14 _ _ ?_
  refine qr fun K59 k60 => ?_
  refine s1 ha rfl (fun _ ha => r_loadR ha rfl Tryz.isAgg50 Tryz.sizeOf50 (C := (fwL p 7).map ei) (by rw [List.length_map, fwL_len, hp]) (cells_all hb4)) ?_; intro a ha
  refine sstoreW ha rfl rfl (one_ei _) Tryz.sizeOf50 (by rw [List.length_map, fwL_len, hp]) hb6 (by rw [List.length_map, List.length_replicate]) ?_
  intro a w61 ha hg hb6'
  replace hb6 := hb6'
  replace hB := keepB1 hg (by omega) hB
  replace hb4 := keepO1 hg (by omega) hb4
  refine k60 _ _ ?_
  refine wp_ret ?_
  exact retC _ ha Tryz.results39 rfl hb6 Tryz.underlying50 rfl (by rw [List.length_map, fwL_len, hp]; kernel_rfl) ⟨rfl, hB⟩

theorem c_inv (p : List Int) (w0 : World) (hp : p.length = 256) (hP : GlobP w0) :
    Calls Tryz.prog 43 #[.agg ((p).map ei).toArray] w0 fun e w' => e = .returned (.agg ((inv p).map ei).toArray) ∧ Below w0.heap.size w0 w' := by
 refine enter (args := [_]) Tryz.func43 rfl Tryz.ntmps43 rfl ?_
 intro a ha
 have hB := Below.refl w0.heap.size w0
 refine qr fun K1 k2 => ?_
 refine sbox ha rfl rfl ?_
 intro a w3 b4 ha hg hb4 hge4 hlt4
 have hz4 := Nat.le_trans hB.size hge4
 replace hB := keepB0 hg hB
 refine salloc ha zero_50T1 rfl ?_
 intro a w5 b6 ha hg hb6 hge6 hlt6
 have hz6 := Nat.le_trans hB.size hge6
 have hq4_6 := bl hb4 hge6
 replace hB := keepB0 hg hB
 replace hb4 := keepO0 hg hb4
 refine k2 _ _ ?_
 refine qr fun K7 k8 => ?_
 refine s1 ha rfl (fun _ ha => r_loadR ha rfl Tryz.isAgg50 Tryz.sizeOf50 (C := (p).map ei) (by rw [List.length_map, hp]) (cells_all hb4)) ?_; intro a ha
 refine scp ha (r_call ha [.agg ((p).map ei).toArray] rfl Tryz.call83) rfl rfl rfl (c_clean p _ (by rw [hp])) ?_; intro w9 hg a ha
 replace hB := keepB0 hg hB
 replace hb4 := keepO0 hg hb4
 replace hb6 := keepO0 hg hb6
 refine sstoreW ha rfl rfl (one_ei _) Tryz.sizeOf50 (by rw [List.length_map, (cl_red _ (by rw [hp])).len]) hb4 (by rw [List.length_map, hp]) ?_
 intro a w10 ha hg hb4'
 replace hb4 := hb4'
 replace hB := keepB1 hg (by omega) hB
 replace hb6 := keepO1 hg (by omega) hb6
 refine k8 _ _ ?_
 refine qr fun K11 k12 => ?_
 refine s1 ha rfl (av rfl) ?_; intro a ha
 refine k12 _ _ ?_
 refine wp_seq_k fun K13 k14 => ?_
 refine qr fun K15 k16 => ?_
 refine s1 ha rfl (av rfl) ?_; intro a ha
 refine k16 _ _ ?_
 refine wp_block ?_
 refine loopG (fun (i : Nat) a w => (i ≤ 7) ∧ Has 61 [(1, .pointer (some ⟨b4, 0, none⟩)), (2, .pointer (some ⟨b6, 0, none⟩)), (3, en (kI i)), (4, en (lenI i))] a ∧ Below w0.heap.size w0 w ∧ w.heap[b4]? = some (.cells ((ivL p i).map ei).toArray 50 (0, 0)) ∧ w.heap[b6]? = some (.cells ((List.replicate 256 (0 : Int)).map ei).toArray 50 (0, 0))) (fun i => 7 - i) 0 ⟨(by omega), ha.to [1, 2, 3, 4] rfl, hB, hb4, hb6⟩ ?_
 clear ha a hB hb4 hb6
 intro i a w17 ⟨hki, ha, hB, hb4, hb6⟩
 have hFe := I_end i (by omega)
 refine wp_seq_k fun K18 k19 => ?_
 refine qr fun K20 k21 => ?_
 refine s2 ha rfl (mv rfl) (fun _ ha => r_leq ha ((lenI i : Nat) : Int) 128 (decide (lenI i ≤ 128)) rfl rfl (decide_eq_decide.2 (by omega))) ?_; intro a ha
 refine k21 _ _ ?_
 refine cond_if ha rfl (fun hc22 => ?_) (fun hc22 => ?_)
 ·skip
  replace hc22 := of_decide_eq_true hc22
  refine wp_skip ?_
  refine k19 _ _ ?_
  refine wp_seq_k fun K23 k24 => ?_
  refine wp_block ?_
  refine qr fun K25 k26 => ?_
  refine s1 ha rfl (av rfl) ?_; intro a ha
  refine k26 _ _ ?_
  refine wp_block ?_
  have hF := I_facts i (by omega)
  refine loopG (fun (b : Nat) a w => (b ≤ (nbI i)) ∧ Has 61 [(1, .pointer (some ⟨b4, 0, none⟩)), (2, .pointer (some ⟨b6, 0, none⟩)), (4, en (lenI i)), (5, en (2 * lenI i * b)), (3, en (kI i - b))] a ∧ Below w0.heap.size w0 w ∧ w.heap[b4]? = some (.cells ((ivS i (ivL p i) b).map ei).toArray 50 (0, 0)) ∧ w.heap[b6]? = some (.cells ((List.replicate 256 (0 : Int)).map ei).toArray 50 (0, 0))) (fun b => (nbI i) - b) 0 ⟨(by omega), ha.to [1, 2, 4, 5, 3] rfl, hB, hb4, hb6⟩ ?_
  clear ha a hB hb4 hb6
  intro b a w27 ⟨hkb, ha, hB, hb4, hb6⟩
  have hbk := blkF (lenI i) (nbI i) b hF.1 hF.2.1
  refine wp_seq_k fun K28 k29 => ?_
  refine qr fun K30 k31 => ?_
  refine s2 ha rfl (mv rfl) (fun _ ha => r_lss ha ((2 * lenI i * b : Nat) : Int) 256 (decide (2 * lenI i * b < 256)) rfl rfl (decide_eq_decide.2 (by omega))) ?_; intro a ha
  refine k31 _ _ ?_
  refine cond_if ha rfl (fun hc32 => ?_) (fun hc32 => ?_)
  ·skip
   replace hc32 := of_decide_eq_true hc32
   refine wp_skip ?_
   refine k29 _ _ ?_
   refine wp_seq_k fun K33 k34 => ?_
   refine wp_block ?_
   refine qr fun K35 k36 => ?_
   refine s1 ha rfl (mv rfl) ?_; intro a ha
   refine scp ha (r_call ha [ei ((kI i - b : Nat) : Int)] rfl Tryz.call84) rfl rfl rfl (c_zeta ((kI i - b : Nat) : Int) _ (globP_keep hP hB)) ?_; intro w37 hg a ha
   replace hB := keepB0 hg hB
   replace hb4 := keepO0 hg hb4
   replace hb6 := keepO0 hg hb6
   refine s1 ha rfl (av rfl) ?_; intro a ha
   refine k36 _ _ ?_
   refine qr fun K38 k39 => ?_
   refine s3 ha rfl (mv rfl) (fun _ ha => rn_sub ha (kI i - b) 1 rfl rfl (by omega) (by omega)) (av rfl) ?_; intro a ha
   refine k39 _ _ ?_
   refine qr fun K40 k41 => ?_
   refine s2 ha rfl (mv rfl) (av rfl) ?_; intro a ha
   refine k41 _ _ ?_
   refine wp_block ?_
   refine loopG (fun (t : Nat) a w => (t ≤ (lenI i)) ∧ Has 61 [(1, .pointer (some ⟨b4, 0, none⟩)), (2, .pointer (some ⟨b6, 0, none⟩)), (4, en (lenI i)), (5, en (2 * lenI i * b)), (3, en ((kI i - b) - 1)), (6, en (zz ((kI i - b : Nat) : Int) 7)), (7, en (2 * lenI i * b + t))] a ∧ Below w0.heap.size w0 w ∧ w.heap[b4]? = some (.cells ((ivB ((zz ((kI i - b : Nat) : Int) 7 : Nat) : Int) (lenI i) (2 * lenI i * b) (ivS i (ivL p i) b) t).map ei).toArray 50 (0, 0)) ∧ w.heap[b6]? = some (.cells ((List.replicate 256 (0 : Int)).map ei).toArray 50 (0, 0))) (fun t => (lenI i) - t) 0 ⟨(by omega), ha.to [1, 2, 4, 5, 3, 6, 7] rfl, hB, hb4, hb6⟩ ?_
   clear ha a hB hb4 hb6
   intro t a w42 ⟨hkt, ha, hB, hb4, hb6⟩
   refine wp_seq_k fun K43 k44 => ?_
   refine qr fun K45 k46 => ?_
   refine s5 ha rfl (mv rfl) (mv rfl) (mv rfl) (fun _ ha => rn_add ha (2 * lenI i * b) (lenI i) rfl rfl (by omega)) (fun _ ha => r_lss ha ((2 * lenI i * b + t : Nat) : Int) (((2 * lenI i * b) + (lenI i) : Nat) : Int) (decide (2 * lenI i * b + t < (2 * lenI i * b) + (lenI i))) rfl rfl (decide_eq_decide.2 (by omega))) ?_; intro a ha
   refine k46 _ _ ?_
   refine cond_if ha rfl (fun hc47 => ?_) (fun hc47 => ?_)
   ·skip
    replace hc47 := of_decide_eq_true hc47
    refine wp_skip ?_
    refine k44 _ _ ?_
    refine wp_seq_k fun K48 k49 => ?_
    refine wp_block ?_
    refine qr fun K50 k51 => ?_
    refine s4 ha rfl (mv rfl) (fun _ ha => r_indexArr (i := 2 * lenI i * b + t) ha (2 * lenI i * b + t) Tryz.runUnderlying50 Tryz.sizeOf3 rfl rfl (by omega) (by omega)) (fun _ ha => r_load ha rfl Tryz.isAgg3 (cell_of hb4 (get_map ei (ivB ((zz ((kI i - b : Nat) : Int) 7 : Nat) : Int) (lenI i) (2 * lenI i * b) (ivS i (ivL p i) b) t) 0 (2 * lenI i * b + t) (by rw [ivB_len, ivS_len, ivL_len, hp]; omega)))) (av rfl) ?_; intro a ha
    refine k51 _ _ ?_
    refine qr fun K52 k53 => ?_
    refine s6 ha rfl (mv rfl) (mv rfl) (mv rfl) (mv rfl) (fun _ ha => rn_add ha (2 * lenI i * b + t) (lenI i) rfl rfl (by omega)) (fun _ ha => r_indexArr (i := (2 * lenI i * b + t) + (lenI i)) ha ((2 * lenI i * b + t) + (lenI i)) Tryz.runUnderlying50 Tryz.sizeOf3 rfl rfl (by omega) (by omega)) ?_; intro a ha
    refine s1 ha rfl (fun _ ha => r_load ha rfl Tryz.isAgg3 (cell_of hb4 (get_map ei (ivB ((zz ((kI i - b : Nat) : Int) 7 : Nat) : Int) (lenI i) (2 * lenI i * b) (ivS i (ivL p i) b) t) 0 ((2 * lenI i * b + t) + (lenI i)) (by rw [ivB_len, ivS_len, ivL_len, hp]; omega)))) ?_; intro a ha
    refine scp ha (r_call ha [ei ((ivB ((zz ((kI i - b : Nat) : Int) 7 : Nat) : Int) (lenI i) (2 * lenI i * b) (ivS i (ivL p i) b) t).getD (2 * lenI i * b + t) 0), ei ((ivB ((zz ((kI i - b : Nat) : Int) 7 : Nat) : Int) (lenI i) (2 * lenI i * b) (ivS i (ivL p i) b) t).getD ((2 * lenI i * b + t) + (lenI i)) 0)] rfl Tryz.call87) rfl rfl rfl (c_add ((ivB ((zz ((kI i - b : Nat) : Int) 7 : Nat) : Int) (lenI i) (2 * lenI i * b) (ivS i (ivL p i) b) t).getD (2 * lenI i * b + t) 0) ((ivB ((zz ((kI i - b : Nat) : Int) 7 : Nat) : Int) (lenI i) (2 * lenI i * b) (ivS i (ivL p i) b) t).getD ((2 * lenI i * b + t) + (lenI i)) 0) _ ) ?_; intro w54 hg a ha
    replace hB := keepB0 hg hB
    replace hb4 := keepO0 hg hb4
    replace hb6 := keepO0 hg hb6
    refine s1 ha rfl (fun _ ha => r_indexArr (i := 2 * lenI i * b + t) ha (2 * lenI i * b + t) Tryz.runUnderlying50 Tryz.sizeOf3 rfl rfl (by omega) (by omega)) ?_; intro a ha
    refine sstore ha (v := ei ((zadd ((ivB ((zz ((kI i - b : Nat) : Int) 7 : Nat) : Int) (lenI i) (2 * lenI i * b) (ivS i (ivL p i) b) t).getD (2 * lenI i * b + t) 0) ((ivB ((zz ((kI i - b : Nat) : Int) 7 : Nat) : Int) (lenI i) (2 * lenI i * b) (ivS i (ivL p i) b) t).getD ((2 * lenI i * b + t) + (lenI i)) 0) : Nat) : Int)) rfl rfl rfl rfl Tryz.sizeOf3 hb4 (by rw [List.length_map, ivB_len, ivS_len, ivL_len, hp]; omega) ?_
    intro a w55 ha hg hb4'
    rw [set_map] at hb4'
    replace hb4 := hb4'
    replace hB := keepB1 hg (by omega) hB
    replace hb6 := keepO1 hg (by omega) hb6
    refine k53 _ _ ?_
    refine region ?_
    refine s6 ha rfl (mv rfl) (mv rfl) (fun _ ha => rn_add ha (2 * lenI i * b + t) (lenI i) rfl rfl (by omega)) (mv rfl) (mv rfl) (mv rfl) ?_; intro a ha
    refine s4 ha rfl (fun _ ha => rn_add ha (2 * lenI i * b + t) (lenI i) rfl rfl (by omega)) (fun _ ha => r_indexArr (i := (2 * lenI i * b + t) + (lenI i)) ha ((2 * lenI i * b + t) + (lenI i)) Tryz.runUnderlying50 Tryz.sizeOf3 rfl rfl (by omega) (by omega)) (fun _ ha => r_load ha rfl Tryz.isAgg3 (cell_of hb4 (get_map ei ((ivB ((zz ((kI i - b : Nat) : Int) 7 : Nat) : Int) (lenI i) (2 * lenI i * b) (ivS i (ivL p i) b) t).set (2 * lenI i * b + t) ((zadd ((ivB ((zz ((kI i - b : Nat) : Int) 7 : Nat) : Int) (lenI i) (2 * lenI i * b) (ivS i (ivL p i) b) t).getD (2 * lenI i * b + t) 0) ((ivB ((zz ((kI i - b : Nat) : Int) 7 : Nat) : Int) (lenI i) (2 * lenI i * b) (ivS i (ivL p i) b) t).getD ((2 * lenI i * b + t) + (lenI i)) 0) : Nat) : Int)) 0 ((2 * lenI i * b + t) + (lenI i)) (by rw [List.length_set, ivB_len, ivS_len, ivL_len, hp]; omega)))) (mv rfl) ?_; intro a ha
    refine scp ha (r_call ha [ei (((ivB ((zz ((kI i - b : Nat) : Int) 7 : Nat) : Int) (lenI i) (2 * lenI i * b) (ivS i (ivL p i) b) t).set (2 * lenI i * b + t) ((zadd ((ivB ((zz ((kI i - b : Nat) : Int) 7 : Nat) : Int) (lenI i) (2 * lenI i * b) (ivS i (ivL p i) b) t).getD (2 * lenI i * b + t) 0) ((ivB ((zz ((kI i - b : Nat) : Int) 7 : Nat) : Int) (lenI i) (2 * lenI i * b) (ivS i (ivL p i) b) t).getD ((2 * lenI i * b + t) + (lenI i)) 0) : Nat) : Int)).getD ((2 * lenI i * b + t) + (lenI i)) 0), ei ((ivB ((zz ((kI i - b : Nat) : Int) 7 : Nat) : Int) (lenI i) (2 * lenI i * b) (ivS i (ivL p i) b) t).getD (2 * lenI i * b + t) 0)] rfl Tryz.call86) rfl rfl rfl (c_sub (((ivB ((zz ((kI i - b : Nat) : Int) 7 : Nat) : Int) (lenI i) (2 * lenI i * b) (ivS i (ivL p i) b) t).set (2 * lenI i * b + t) ((zadd ((ivB ((zz ((kI i - b : Nat) : Int) 7 : Nat) : Int) (lenI i) (2 * lenI i * b) (ivS i (ivL p i) b) t).getD (2 * lenI i * b + t) 0) ((ivB ((zz ((kI i - b : Nat) : Int) 7 : Nat) : Int) (lenI i) (2 * lenI i * b) (ivS i (ivL p i) b) t).getD ((2 * lenI i * b + t) + (lenI i)) 0) : Nat) : Int)).getD ((2 * lenI i * b + t) + (lenI i)) 0) ((ivB ((zz ((kI i - b : Nat) : Int) 7 : Nat) : Int) (lenI i) (2 * lenI i * b) (ivS i (ivL p i) b) t).getD (2 * lenI i * b + t) 0) _ ) ?_; intro w56 hg a ha
    replace hB := keepB0 hg hB
    replace hb4 := keepO0 hg hb4
    replace hb6 := keepO0 hg hb6
    refine scp ha (r_call ha [ei ((zz ((kI i - b : Nat) : Int) 7 : Nat) : Int), ei ((zsub (((ivB ((zz ((kI i - b : Nat) : Int) 7 : Nat) : Int) (lenI i) (2 * lenI i * b) (ivS i (ivL p i) b) t).set (2 * lenI i * b + t) ((zadd ((ivB ((zz ((kI i - b : Nat) : Int) 7 : Nat) : Int) (lenI i) (2 * lenI i * b) (ivS i (ivL p i) b) t).getD (2 * lenI i * b + t) 0) ((ivB ((zz ((kI i - b : Nat) : Int) 7 : Nat) : Int) (lenI i) (2 * lenI i * b) (ivS i (ivL p i) b) t).getD ((2 * lenI i * b + t) + (lenI i)) 0) : Nat) : Int)).getD ((2 * lenI i * b + t) + (lenI i)) 0) ((ivB ((zz ((kI i - b : Nat) : Int) 7 : Nat) : Int) (lenI i) (2 * lenI i * b) (ivS i (ivL p i) b) t).getD (2 * lenI i * b + t) 0) : Nat) : Int)] rfl Tryz.call85) rfl rfl rfl (c_mul ((zz ((kI i - b : Nat) : Int) 7 : Nat) : Int) ((zsub (((ivB ((zz ((kI i - b : Nat) : Int) 7 : Nat) : Int) (lenI i) (2 * lenI i * b) (ivS i (ivL p i) b) t).set (2 * lenI i * b + t) ((zadd ((ivB ((zz ((kI i - b : Nat) : Int) 7 : Nat) : Int) (lenI i) (2 * lenI i * b) (ivS i (ivL p i) b) t).getD (2 * lenI i * b + t) 0) ((ivB ((zz ((kI i - b : Nat) : Int) 7 : Nat) : Int) (lenI i) (2 * lenI i * b) (ivS i (ivL p i) b) t).getD ((2 * lenI i * b + t) + (lenI i)) 0) : Nat) : Int)).getD ((2 * lenI i * b + t) + (lenI i)) 0) ((ivB ((zz ((kI i - b : Nat) : Int) 7 : Nat) : Int) (lenI i) (2 * lenI i * b) (ivS i (ivL p i) b) t).getD (2 * lenI i * b + t) 0) : Nat) : Int) _ ) ?_; intro w57 hg a ha
    replace hB := keepB0 hg hB
    replace hb4 := keepO0 hg hb4
    replace hb6 := keepO0 hg hb6
    refine s1 ha rfl (fun _ ha => r_indexArr (i := (2 * lenI i * b + t) + (lenI i)) ha ((2 * lenI i * b + t) + (lenI i)) Tryz.runUnderlying50 Tryz.sizeOf3 rfl rfl (by omega) (by omega)) ?_; intro a ha
    refine sstore ha (v := ei ((zmul ((zz ((kI i - b : Nat) : Int) 7 : Nat) : Int) ((zsub (((ivB ((zz ((kI i - b : Nat) : Int) 7 : Nat) : Int) (lenI i) (2 * lenI i * b) (ivS i (ivL p i) b) t).set (2 * lenI i * b + t) ((zadd ((ivB ((zz ((kI i - b : Nat) : Int) 7 : Nat) : Int) (lenI i) (2 * lenI i * b) (ivS i (ivL p i) b) t).getD (2 * lenI i * b + t) 0) ((ivB ((zz ((kI i - b : Nat) : Int) 7 : Nat) : Int) (lenI i) (2 * lenI i * b) (ivS i (ivL p i) b) t).getD ((2 * lenI i * b + t) + (lenI i)) 0) : Nat) : Int)).getD ((2 * lenI i * b + t) + (lenI i)) 0) ((ivB ((zz ((kI i - b : Nat) : Int) 7 : Nat) : Int) (lenI i) (2 * lenI i * b) (ivS i (ivL p i) b) t).getD (2 * lenI i * b + t) 0) : Nat) : Int) : Nat) : Int)) rfl rfl rfl rfl Tryz.sizeOf3 hb4 (by rw [List.length_map, List.length_set, ivB_len, ivS_len, ivL_len, hp]; omega) ?_
    intro a w58 ha hg hb4'
    rw [set_map] at hb4'
    replace hb4 := hb4'
    replace hB := keepB1 hg (by omega) hB
    replace hb6 := keepO1 hg (by omega) hb6
    refine k49 _ _ ?_
    refine region ?_
    refine s3 ha rfl (mv rfl) (fun _ ha => rn_add ha (2 * lenI i * b + t) 1 rfl rfl (by omega)) (av rfl) ?_; intro a ha
    exact ⟨t + 1, by omega, (by omega), ha.to [1, 2, 4, 5, 3, 6, 7] rfl, hB, hb4, hb6⟩
   ·skip
    replace hc47 := of_decide_eq_false hc47
    refine wp_exit ?_
    obtain rfl : t = (lenI i) := by omega
    refine k34 _ _ ?_
    refine region ?_
    refine s5 ha rfl (mv rfl) (mv rfl) (fun _ ha => rn_mul ha 2 (lenI i) rfl rfl (by omega)) (fun _ ha => rn_add ha (2 * lenI i * b) (2 * (lenI i)) rfl rfl (by omega)) (av rfl) ?_; intro a ha
    exact ⟨b + 1, by omega, (by omega), ha.to [1, 2, 4, 5, 3] rfl, hB, hb4, hb6⟩
  ·skip
   replace hc32 := of_decide_eq_false hc32
   refine wp_exit ?_
   obtain rfl : b = (nbI i) := by omega
   refine k24 _ _ ?_
   refine region ?_
   refine s3 ha rfl (mv rfl) (fun _ ha => rn_mul ha (lenI i) 2 rfl rfl (by omega)) (av rfl) ?_; intro a ha
   exact ⟨i + 1, by omega, (by omega), ha.to [1, 2, 3, 4] rfl, hB, hb4, hb6⟩
 ·skip
  replace hc22 := of_decide_eq_false hc22
  refine wp_exit ?_
  obtain rfl : i = 7 := by omega
  refine k14 _ _ ?_
  refine qr fun K59 k60 => ?_
  refine s2 ha rfl (fun _ ha => r_loadR ha rfl Tryz.isAgg50 Tryz.sizeOf50 (C := (ivL p 7).map ei) (by rw [List.length_map, ivL_len, hp]) (cells_all hb4)) (fun _ ha => r_loadR ha rfl Tryz.isAgg50 Tryz.sizeOf50 (C := (ivL p 7).map ei) (by rw [List.length_map, ivL_len, hp]) (cells_all hb4)) ?_; intro a ha
  refine scp ha (r_call ha [.agg (((ivL p 7)).map ei).toArray, .agg (((ivL p 7)).map ei).toArray, .func (.func 93) #[] #[]] rfl Tryz.call92) rfl rfl rfl (c_eachInverse (ivL p 7) (ivL p 7) _ (by rw [ivL_len, hp]) (by rw [ivL_len, hp])) ?_; intro w61 hg a ha
  replace hB := keepB0 hg hB
  replace hb6 := keepO0 hg hb6
  refine sstoreW ha rfl rfl (one_ei _) Tryz.sizeOf50 (by rw [List.length_map, eaA_len, ivL_len, hp]) hb6 (by rw [List.length_map, List.length_replicate]) ?_
  intro a w62 ha hg hb6'
  replace hb6 := hb6'
  replace hB := keepB1 hg (by omega) hB
  refine k60 _ _ ?_
  refine wp_ret ?_
  exact retC _ ha Tryz.results43 rfl hb6 Tryz.underlying50 rfl (by rw [List.length_map, eaA_len, ivL_len, hp]; kernel_rfl) ⟨rfl, hB⟩

theorem c_times (p q : List Int) (w0 : World) (hp : p.length = 256) (hq : q.length = 256) (hP : GlobP w0) :
    Calls Tryz.prog 91 #[.agg ((p).map ei).toArray, .agg ((q).map ei).toArray] w0 fun e w' => e = .returned (.agg ((tms p q).map ei).toArray) ∧ Below w0.heap.size w0 w' := by
 refine enter (args := [_, _]) Tryz.func91 rfl Tryz.ntmps91 rfl ?_
 intro a ha
 have hB := Below.refl w0.heap.size w0
 refine qr fun K1 k2 => ?_
 refine sbox ha rfl rfl ?_
 intro a w3 b4 ha hg hb4 hge4 hlt4
 have hz4 := Nat.le_trans hB.size hge4
 replace hB := keepB0 hg hB
 refine sbox ha rfl rfl ?_
 intro a w5 b6 ha hg hb6 hge6 hlt6
 have hz6 := Nat.le_trans hB.size hge6
 have hq4_6 := bl hb4 hge6
 replace hB := keepB0 hg hB
 replace hb4 := keepO0 hg hb4
 refine salloc ha zero_50T1 rfl ?_
 intro a w7 b8 ha hg hb8 hge8 hlt8
 have hz8 := Nat.le_trans hB.size hge8
 have hq4_8 := bl hb4 hge8
 have hq6_8 := bl hb6 hge8
 replace hB := keepB0 hg hB
 replace hb4 := keepO0 hg hb4
 replace hb6 := keepO0 hg hb6
 refine k2 _ _ ?_
 refine wp_seq_k fun K9 k10 => ?_
 refine regionD (S := fun w => Below w0.heap.size w0 w ∧ w.heap[b4]? = some (.cells ((p).map ei).toArray 50 (0, 0)) ∧ w.heap[b6]? = some (.cells ((q).map ei).toArray 50 (0, 0)) ∧ w.heap[b8]? = some (.cells ((List.replicate 256 (0 : Int)).map ei).toArray 50 (0, 0)) ∧ True) [4, 5] [0, 2] [0, 2, 1, 3, 4, 5] mixed (by kernel_rfl) (fun w hg => ⟨keepB0 hg hB, keepO0 hg hb4, keepO0 hg hb6, keepO0 hg hb8, trivial⟩) ?_
 intro w11 hg
 replace hB := keepB0 hg hB
 replace hb4 := keepO0 hg hb4
 replace hb6 := keepO0 hg hb6
 replace hb8 := keepO0 hg hb8
 refine c2 ha rfl (fun w ⟨_, hb4, _⟩ _ ha => r_loadR ha rfl Tryz.isAgg50 Tryz.sizeOf50 (C := (p).map ei) (by rw [List.length_map, hp]) (cells_all hb4)) (fun w ⟨_, _, hb6, _⟩ _ ha => r_loadR ha rfl Tryz.isAgg50 Tryz.sizeOf50 (C := (q).map ei) (by rw [List.length_map, hq]) (cells_all hb6)) ?_; intro a ha
 refine cc ha rfl rfl (r_call ha [.agg ((p).map ei).toArray] rfl Tryz.call83) rfl rfl rfl (c_clean p _ (by rw [hp])) ?_
 rintro e w12 ⟨rfl, hBc⟩
 have hg := grown_call hBc
 replace hB := keepB0 hg hB
 replace hb4 := keepO0 hg hb4
 replace hb6 := keepO0 hg hb6
 replace hb8 := keepO0 hg hb8
 refine ⟨fun _ => ⟨hB, hb4, hb6, hb8, trivial⟩, _, rfl, ?_⟩; intro a ha
 refine cc ha rfl rfl (r_call ha [.agg ((q).map ei).toArray] rfl Tryz.call83) rfl rfl rfl (c_clean q _ (by rw [hq])) ?_
 rintro e w13 ⟨rfl, hBc⟩
 have hg := grown_call hBc
 replace hB := keepB0 hg hB
 replace hb4 := keepO0 hg hb4
 replace hb6 := keepO0 hg hb6
 replace hb8 := keepO0 hg hb8
 refine ⟨fun _ => ⟨hB, hb4, hb6, hb8, trivial⟩, _, rfl, ?_⟩; intro a ha
 refine cstoreW ha rfl rfl rfl rfl (one_ei _) Tryz.sizeOf50 (by rw [List.length_map, (cl_red _ (by rw [hp])).len]) hb4 (by rw [List.length_map, hp]) rfl ?_
 intro a w14 ha hg hb4'
 replace hb4 := hb4'
 replace hB := keepB1 hg (by omega) hB
 replace hb6 := keepO1 hg (by omega) hb6
 replace hb8 := keepO1 hg (by omega) hb8
 refine cstoreW ha rfl rfl rfl rfl (one_ei _) Tryz.sizeOf50 (by rw [List.length_map, (cl_red _ (by rw [hq])).len]) hb6 (by rw [List.length_map, hq]) rfl ?_
 intro a w15 ha hg hb6'
 replace hb6 := hb6'
 replace hB := keepB1 hg (by omega) hB
 replace hb4 := keepO1 hg (by omega) hb4
 replace hb8 := keepO1 hg (by omega) hb8
 refine cfin (k10 _ _ ?_)
 refine qr fun K16 k17 => ?_
 refine salloc ha zero_50T1 rfl ?_
 intro a w18 b19 ha hg hb19 hge19 hlt19
 have hz19 := Nat.le_trans hB.size hge19
 have hq4_19 := bl hb4 hge19
 have hq6_19 := bl hb6 hge19
 have hq8_19 := bl hb8 hge19
 replace hB := keepB0 hg hB
 replace hb4 := keepO0 hg hb4
 replace hb6 := keepO0 hg hb6
 replace hb8 := keepO0 hg hb8
 refine k17 _ _ ?_
 refine wp_seq_k fun K20 k21 => ?_
 refine qr fun K22 k23 => ?_
 refine s1 ha rfl (mv rfl) ?_; intro a ha
 refine k23 _ _ ?_
 refine wp_block ?_
 refine loopG (fun (i : Nat) a w => (i ≤ 128) ∧ Has 68 [(2, .pointer (some ⟨b4, 0, none⟩)), (3, .pointer (some ⟨b6, 0, none⟩)), (4, .pointer (some ⟨b8, 0, none⟩)), (5, .pointer (some ⟨b19, 0, none⟩)), (16, en i)] a ∧ Below w0.heap.size w0 w ∧ w.heap[b4]? = some (.cells ((cl p).map ei).toArray 50 (0, 0)) ∧ w.heap[b6]? = some (.cells ((cl q).map ei).toArray 50 (0, 0)) ∧ w.heap[b8]? = some (.cells ((List.replicate 256 (0 : Int)).map ei).toArray 50 (0, 0)) ∧ w.heap[b19]? = some (.cells ((tmA (cl p) (cl q) i).map ei).toArray 50 (0, 0))) (fun i => 128 - i) 0 ⟨(by omega), ha.to [2, 3, 4, 5, 16] rfl, hB, hb4, hb6, hb8, hb19⟩ ?_
 clear ha a hB hb4 hb6 hb8 hb19
 intro i a w24 ⟨hki, ha, hB, hb4, hb6, hb8, hb19⟩
 refine qr fun K25 k26 => ?_
 refine s1 ha rfl (fun _ ha => r_lss ha ((i : Nat) : Int) 128 (decide (i < 128)) rfl rfl (decide_eq_decide.2 (by omega))) ?_; intro a ha
 refine k26 _ _ ?_
 refine wp_seq_k fun K27 k28 => ?_
 refine cond_if ha rfl (fun hc29 => ?_) (fun hc29 => ?_)
 ·skip
  replace hc29 := of_decide_eq_true hc29
  refine wp_skip ?_
  refine k28 _ _ ?_
  refine wp_seq_k fun K30 k31 => ?_
  refine wp_block ?_
  refine qr fun K32 k33 => ?_
  refine s2 ha rfl (mv rfl) (av rfl) ?_; intro a ha
  refine k33 _ _ ?_
  refine qr fun K34 k35 => ?_
  refine s1 ha rfl (mv rfl) ?_; intro a ha
  refine scp ha (r_call ha [ei ((i : Nat) : Int)] rfl Tryz.call84) rfl rfl rfl (c_zeta ((i : Nat) : Int) _ (globP_keep hP hB)) ?_; intro w36 hg a ha
  replace hB := keepB0 hg hB
  replace hb4 := keepO0 hg hb4
  replace hb6 := keepO0 hg hb6
  replace hb8 := keepO0 hg hb8
  replace hb19 := keepO0 hg hb19
  refine s1 ha rfl (mv rfl) ?_; intro a ha
  refine scp ha (r_call ha [ei ((i : Nat) : Int)] rfl Tryz.call84) rfl rfl rfl (c_zeta ((i : Nat) : Int) _ (globP_keep hP hB)) ?_; intro w37 hg a ha
  replace hB := keepB0 hg hB
  replace hb4 := keepO0 hg hb4
  replace hb6 := keepO0 hg hb6
  replace hb8 := keepO0 hg hb8
  replace hb19 := keepO0 hg hb19
  refine scp ha (r_call ha [ei ((zz ((i : Nat) : Int) 7 : Nat) : Int), ei ((zz ((i : Nat) : Int) 7 : Nat) : Int)] rfl Tryz.call85) rfl rfl rfl (c_mul ((zz ((i : Nat) : Int) 7 : Nat) : Int) ((zz ((i : Nat) : Int) 7 : Nat) : Int) _ ) ?_; intro w38 hg a ha
  replace hB := keepB0 hg hB
  replace hb4 := keepO0 hg hb4
  replace hb6 := keepO0 hg hb6
  replace hb8 := keepO0 hg hb8
  replace hb19 := keepO0 hg hb19
  refine scp ha (r_call ha [ei ((zmul ((zz ((i : Nat) : Int) 7 : Nat) : Int) ((zz ((i : Nat) : Int) 7 : Nat) : Int) : Nat) : Int), ei 17] rfl Tryz.call85) rfl rfl rfl (c_mul ((zmul ((zz ((i : Nat) : Int) 7 : Nat) : Int) ((zz ((i : Nat) : Int) 7 : Nat) : Int) : Nat) : Int) 17 _ ) ?_; intro w39 hg a ha
  replace hB := keepB0 hg hB
  replace hb4 := keepO0 hg hb4
  replace hb6 := keepO0 hg hb6
  replace hb8 := keepO0 hg hb8
  replace hb19 := keepO0 hg hb19
  refine s1 ha rfl (av rfl) ?_; intro a ha
  refine k35 _ _ ?_
  refine wp_seq_k fun K40 k41 => ?_
  refine regionD (S := fun w => Below w0.heap.size w0 w ∧ w.heap[b4]? = some (.cells ((cl p).map ei).toArray 50 (0, 0)) ∧ w.heap[b6]? = some (.cells ((cl q).map ei).toArray 50 (0, 0)) ∧ w.heap[b8]? = some (.cells ((List.replicate 256 (0 : Int)).map ei).toArray 50 (0, 0)) ∧ w.heap[b19]? = some (.cells ((tmA (cl p) (cl q) i).map ei).toArray 50 (0, 0)) ∧ True) [] [0, 1, 2, 3, 4, 5, 6, 7, 8, 9, 10, 11, 12, 13, 14, 15, 16, 17, 18, 19, 20, 21] [0, 1, 2, 3, 4, 5, 6, 7, 8, 9, 10, 11, 12, 13, 14, 15, 16, 17, 18, 19, 20, 21] mixed (by kernel_rfl) (fun w hg => ⟨keepB0 hg hB, keepO0 hg hb4, keepO0 hg hb6, keepO0 hg hb8, keepO0 hg hb19, trivial⟩) ?_
  intro w42 hg
  replace hB := keepB0 hg hB
  replace hb4 := keepO0 hg hb4
  replace hb6 := keepO0 hg hb6
  replace hb8 := keepO0 hg hb8
  replace hb19 := keepO0 hg hb19
  refine c6 ha rfl (cmv rfl) (fun w _ _ ha => rn_mul ha 2 i rfl rfl (by omega)) (fun w _ _ ha => r_indexArr (i := 2 * i) ha (2 * i) Tryz.runUnderlying50 Tryz.sizeOf3 rfl rfl (by omega) (by omega)) (fun w ⟨_, hb4, _⟩ _ ha => r_load ha rfl Tryz.isAgg3 (cell_of hb4 (get_map ei (cl p) 0 (2 * i) (by rw [(cl_red _ (by rw [hp])).len]; omega)))) (cmv rfl) (fun w _ _ ha => rn_mul ha 2 i rfl rfl (by omega)) ?_; intro a ha
  refine c6 ha rfl (fun w _ _ ha => rn_add ha (2 * i) 1 rfl rfl (by omega)) (fun w _ _ ha => r_indexArr (i := (2 * i) + 1) ha ((2 * i) + 1) Tryz.runUnderlying50 Tryz.sizeOf3 rfl rfl (by omega) (by omega)) (fun w ⟨_, hb4, _⟩ _ ha => r_load ha rfl Tryz.isAgg3 (cell_of hb4 (get_map ei (cl p) 0 ((2 * i) + 1) (by rw [(cl_red _ (by rw [hp])).len]; omega)))) (cmv rfl) (fun w _ _ ha => rn_mul ha 2 i rfl rfl (by omega)) (fun w _ _ ha => r_indexArr (i := 2 * i) ha (2 * i) Tryz.runUnderlying50 Tryz.sizeOf3 rfl rfl (by omega) (by omega)) ?_; intro a ha
  refine c6 ha rfl (fun w ⟨_, _, hb6, _⟩ _ ha => r_load ha rfl Tryz.isAgg3 (cell_of hb6 (get_map ei (cl q) 0 (2 * i) (by rw [(cl_red _ (by rw [hq])).len]; omega)))) (cmv rfl) (fun w _ _ ha => rn_mul ha 2 i rfl rfl (by omega)) (fun w _ _ ha => rn_add ha (2 * i) 1 rfl rfl (by omega)) (fun w _ _ ha => r_indexArr (i := (2 * i) + 1) ha ((2 * i) + 1) Tryz.runUnderlying50 Tryz.sizeOf3 rfl rfl (by omega) (by omega)) (fun w ⟨_, _, hb6, _⟩ _ ha => r_load ha rfl Tryz.isAgg3 (cell_of hb6 (get_map ei (cl q) 0 ((2 * i) + 1) (by rw [(cl_red _ (by rw [hq])).len]; omega)))) ?_; intro a ha
  refine c4 ha rfl (cav rfl) (cav rfl) (cav rfl) (cav rfl) ?_; intro a ha
  refine cfin (k41 _ _ ?_)
  refine qr fun K43 k44 => ?_
  refine s4 ha rfl (mv rfl) (fun _ ha => rn_mul ha 2 i rfl rfl (by omega)) (mv rfl) (mv rfl) ?_; intro a ha
  refine scp ha (r_call ha [ei ((cl p).getD (2 * i) 0), ei ((cl q).getD (2 * i) 0)] rfl Tryz.call85) rfl rfl rfl (c_mul ((cl p).getD (2 * i) 0) ((cl q).getD (2 * i) 0) _ ) ?_; intro w45 hg a ha
  replace hB := keepB0 hg hB
  replace hb4 := keepO0 hg hb4
  replace hb6 := keepO0 hg hb6
  replace hb8 := keepO0 hg hb8
  replace hb19 := keepO0 hg hb19
  refine s2 ha rfl (mv rfl) (mv rfl) ?_; intro a ha
  refine scp ha (r_call ha [ei ((cl p).getD ((2 * i) + 1) 0), ei ((cl q).getD ((2 * i) + 1) 0)] rfl Tryz.call85) rfl rfl rfl (c_mul ((cl p).getD ((2 * i) + 1) 0) ((cl q).getD ((2 * i) + 1) 0) _ ) ?_; intro w46 hg a ha
  replace hB := keepB0 hg hB
  replace hb4 := keepO0 hg hb4
  replace hb6 := keepO0 hg hb6
  replace hb8 := keepO0 hg hb8
  replace hb19 := keepO0 hg hb19
  refine s1 ha rfl (mv rfl) ?_; intro a ha
  refine scp ha (r_call ha [ei ((zmul ((cl p).getD ((2 * i) + 1) 0) ((cl q).getD ((2 * i) + 1) 0) : Nat) : Int), ei ((zmul ((zmul ((zz ((i : Nat) : Int) 7 : Nat) : Int) ((zz ((i : Nat) : Int) 7 : Nat) : Int) : Nat) : Int) 17 : Nat) : Int)] rfl Tryz.call85) rfl rfl rfl (c_mul ((zmul ((cl p).getD ((2 * i) + 1) 0) ((cl q).getD ((2 * i) + 1) 0) : Nat) : Int) ((zmul ((zmul ((zz ((i : Nat) : Int) 7 : Nat) : Int) ((zz ((i : Nat) : Int) 7 : Nat) : Int) : Nat) : Int) 17 : Nat) : Int) _ ) ?_; intro w47 hg a ha
  replace hB := keepB0 hg hB
  replace hb4 := keepO0 hg hb4
  replace hb6 := keepO0 hg hb6
  replace hb8 := keepO0 hg hb8
  replace hb19 := keepO0 hg hb19
  refine scp ha (r_call ha [ei ((zmul ((cl p).getD (2 * i) 0) ((cl q).getD (2 * i) 0) : Nat) : Int), ei ((zmul ((zmul ((cl p).getD ((2 * i) + 1) 0) ((cl q).getD ((2 * i) + 1) 0) : Nat) : Int) ((zmul ((zmul ((zz ((i : Nat) : Int) 7 : Nat) : Int) ((zz ((i : Nat) : Int) 7 : Nat) : Int) : Nat) : Int) 17 : Nat) : Int) : Nat) : Int)] rfl Tryz.call87) rfl rfl rfl (c_add ((zmul ((cl p).getD (2 * i) 0) ((cl q).getD (2 * i) 0) : Nat) : Int) ((zmul ((zmul ((cl p).getD ((2 * i) + 1) 0) ((cl q).getD ((2 * i) + 1) 0) : Nat) : Int) ((zmul ((zmul ((zz ((i : Nat) : Int) 7 : Nat) : Int) ((zz ((i : Nat) : Int) 7 : Nat) : Int) : Nat) : Int) 17 : Nat) : Int) : Nat) : Int) _ ) ?_; intro w48 hg a ha
  replace hB := keepB0 hg hB
  replace hb4 := keepO0 hg hb4
  replace hb6 := keepO0 hg hb6
  replace hb8 := keepO0 hg hb8
  replace hb19 := keepO0 hg hb19
  refine s1 ha rfl (fun _ ha => r_indexArr (i := 2 * i) ha (2 * i) Tryz.runUnderlying50 Tryz.sizeOf3 rfl rfl (by omega) (by omega)) ?_; intro a ha
  refine sstore ha (v := ei ((zadd ((zmul ((cl p).getD (2 * i) 0) ((cl q).getD (2 * i) 0) : Nat) : Int) ((zmul ((zmul ((cl p).getD ((2 * i) + 1) 0) ((cl q).getD ((2 * i) + 1) 0) : Nat) : Int) ((zmul ((zmul ((zz ((i : Nat) : Int) 7 : Nat) : Int) ((zz ((i : Nat) : Int) 7 : Nat) : Int) : Nat) : Int) 17 : Nat) : Int) : Nat) : Int) : Nat) : Int)) rfl rfl rfl rfl Tryz.sizeOf3 hb19 (by rw [List.length_map, (tm_red _ _ _).len]; omega) ?_
  intro a w49 ha hg hb19'
  rw [set_map] at hb19'
  replace hb19 := hb19'
  replace hB := keepB1 hg (by omega) hB
  replace hb4 := keepO1 hg (by omega) hb4
  replace hb6 := keepO1 hg (by omega) hb6
  replace hb8 := keepO1 hg (by omega) hb8
  refine k44 _ _ ?_
  refine region ?_
  refine s5 ha rfl (mv rfl) (fun _ ha => rn_mul ha 2 i rfl rfl (by omega)) (fun _ ha => rn_add ha (2 * i) 1 rfl rfl (by omega)) (mv rfl) (mv rfl) ?_; intro a ha
  refine scp ha (r_call ha [ei ((cl p).getD (2 * i) 0), ei ((cl q).getD ((2 * i) + 1) 0)] rfl Tryz.call85) rfl rfl rfl (c_mul ((cl p).getD (2 * i) 0) ((cl q).getD ((2 * i) + 1) 0) _ ) ?_; intro w50 hg a ha
  replace hB := keepB0 hg hB
  replace hb4 := keepO0 hg hb4
  replace hb6 := keepO0 hg hb6
  replace hb8 := keepO0 hg hb8
  replace hb19 := keepO0 hg hb19
  refine s2 ha rfl (mv rfl) (mv rfl) ?_; intro a ha
  refine scp ha (r_call ha [ei ((cl p).getD ((2 * i) + 1) 0), ei ((cl q).getD (2 * i) 0)] rfl Tryz.call85) rfl rfl rfl (c_mul ((cl p).getD ((2 * i) + 1) 0) ((cl q).getD (2 * i) 0) _ ) ?_; intro w51 hg a ha
  replace hB := keepB0 hg hB
  replace hb4 := keepO0 hg hb4
  replace hb6 := keepO0 hg hb6
  replace hb8 := keepO0 hg hb8
  replace hb19 := keepO0 hg hb19
  refine scp ha (r_call ha [ei ((zmul ((cl p).getD (2 * i) 0) ((cl q).getD ((2 * i) + 1) 0) : Nat) : Int), ei ((zmul ((cl p).getD ((2 * i) + 1) 0) ((cl q).getD (2 * i) 0) : Nat) : Int)] rfl Tryz.call87) rfl rfl rfl (c_add ((zmul ((cl p).getD (2 * i) 0) ((cl q).getD ((2 * i) + 1) 0) : Nat) : Int) ((zmul ((cl p).getD ((2 * i) + 1) 0) ((cl q).getD (2 * i) 0) : Nat) : Int) _ ) ?_; intro w52 hg a ha
  replace hB := keepB0 hg hB
  replace hb4 := keepO0 hg hb4
  replace hb6 := keepO0 hg hb6
  replace hb8 := keepO0 hg hb8
  replace hb19 := keepO0 hg hb19
  refine s1 ha rfl (fun _ ha => r_indexArr (i := (2 * i) + 1) ha ((2 * i) + 1) Tryz.runUnderlying50 Tryz.sizeOf3 rfl rfl (by omega) (by omega)) ?_; intro a ha
  refine sstore ha (v := ei ((zadd ((zmul ((cl p).getD (2 * i) 0) ((cl q).getD ((2 * i) + 1) 0) : Nat) : Int) ((zmul ((cl p).getD ((2 * i) + 1) 0) ((cl q).getD (2 * i) 0) : Nat) : Int) : Nat) : Int)) rfl rfl rfl rfl Tryz.sizeOf3 hb19 (by rw [List.length_map, List.length_set, (tm_red _ _ _).len]; omega) ?_
  intro a w53 ha hg hb19'
  rw [set_map] at hb19'
  replace hb19 := hb19'
  replace hB := keepB1 hg (by omega) hB
  replace hb4 := keepO1 hg (by omega) hb4
  replace hb6 := keepO1 hg (by omega) hb6
  replace hb8 := keepO1 hg (by omega) hb8
  refine k31 _ _ ?_
  refine region ?_
  refine s2 ha rfl (fun _ ha => rn_add ha i 1 rfl rfl (by omega)) (mv rfl) ?_; intro a ha
  exact ⟨i + 1, by omega, (by omega), ha.to [2, 3, 4, 5, 16] rfl, hB, hb4, hb6, hb8, hb19⟩
 ·skip
  replace hc29 := of_decide_eq_false hc29
  refine wp_exit ?_
  obtain rfl : i = 128 := by omega
  refine k21 _ _ ?_
  refine qr fun K54 k55 => ?_
  refine s1 ha rfl (fun _ ha => r_loadR ha rfl Tryz.isAgg50 Tryz.sizeOf50 (C := (tmA (cl p) (cl q) 128).map ei) (by rw [List.length_map, (tm_red _ _ _).len]) (cells_all hb19)) ?_; intro a ha
  refine sstoreW ha rfl rfl (one_ei _) Tryz.sizeOf50 (by rw [List.length_map, (tm_red _ _ _).len]) hb8 (by rw [List.length_map, List.length_replicate]) ?_
  intro a w56 ha hg hb8'
  replace hb8 := hb8'
  replace hB := keepB1 hg (by omega) hB
  replace hb19 := keepO1 hg (by omega) hb19
  refine k55 _ _ ?_
  refine wp_ret ?_
  exact retC _ ha Tryz.results91 rfl hb8 Tryz.underlying50 rfl (by rw [List.length_map, (tm_red _ _ _).len]; kernel_rfl) ⟨rfl, hB⟩
end Go.Proofs.YtaignhikdfpbbaaGreatDoor

/- WALKS written by gen.py (own program) out of specs. -/
namespace Go.Proofs.YtaignhikdfpbbaaGreatDoor
open Go.RowKit Go.Rx
set_option maxRecDepth 100000
set_option maxHeartbeats 4000000
set_option linter.unusedVariables false
set_option linter.unusedSimpArgs false

theorem c_read (b : Nat) (p : List UInt64) (r : Nat) (v : Value) (l : List UInt8) (n : Int) (w0 : World) (hx : w0.heap[b]? = some (.cells (p.map e64 ++ [en r, v]).toArray 104 (0, 0))) (hla : p.length = 25) (hs : Sl w0 v (l.map e8)) (hvb : ∀ j, v.ownBlock = some j → j ≠ b) (hr : 1 ≤ r ∧ r ≤ 200) (hl0 : l.length ≤ 200) (hn : n ≤ 100000000) (hGk : ∀ w, w0.grownBy w (some b) → Glob w) :
    Calls Tryz.prog 72 #[.pointer (some ⟨b, 0, none⟩), ei n] w0 fun e w' => ∃ u v', e = .returned u ∧ w0.grownBy w' (some b) ∧ w'.heap[b]? = some (.cells ((xrun r n.toNat (p, l, [])).1.map e64 ++ [en r, v']).toArray 104 (0, 0)) ∧ Sl w' v' ((xrun r n.toNat (p, l, [])).2.1.map e8) ∧ (∀ j, v'.ownBlock = some j → v.ownBlock = some j ∨ w0.heap.size ≤ j) ∧ w'.ownsRow w0.heap.size 5 1 u (xrun r n.toNat (p, l, [])).2.2.length ((xrun r n.toNat (p, l, [])).2.2.map e8) ∧ (∀ j, u.ownBlock = some j → v'.ownBlock ≠ some j) := by
 refine enter (args := [_, _]) Tryz.func72 rfl Tryz.ntmps72 rfl ?_
 intro a ha
 have hB := grown_refl w0 (some b)
 have hlt0 := hs.lt
 have hbx := hx
 have hsl0 := hs
 refine qr fun K1 k2 => ?_
 refine s1 ha rfl (av rfl) ?_; intro a ha
 refine k2 _ _ ?_
 refine wp_seq_k fun K3 k4 => ?_
 refine qr fun K5 k6 => ?_
 refine s2 ha rfl (mv rfl) (fun _ ha => r_eqlP ha false Tryz.runUnderlying81 rfl rfl rfl) ?_; intro a ha
 refine k6 _ _ ?_
 refine cond_f ha rfl ?_
 refine wp_skip ?_
 refine k4 _ _ ?_
 refine qr fun K7 k8 => ?_
 refine s1 ha rfl (av rfl) ?_; intro a ha
 refine k8 _ _ ?_
 refine wp_seq_k fun K9 k10 => ?_
 refine wp_block ?_
 refine loopG (fun (g : List UInt64 × List UInt8 × List UInt8) a w => ∃ vo : Value, ∃ vl : Value, (g.1.length = 25) ∧ (xrun r n.toNat g = xrun r n.toNat (p, l, [])) ∧ (g.2.1.length ≤ 200) ∧ (g.2.2.length ≤ n.toNat) ∧ (∀ j, vl.ownBlock = some j → v.ownBlock = some j ∨ w0.heap.size ≤ j) ∧ (∀ j, vo.ownBlock = some j → j ≠ b) ∧ (∀ j, vl.ownBlock = some j → j ≠ b) ∧ (∀ j, vl.ownBlock = some j → vo.ownBlock ≠ some j) ∧ Has 67 [(0, .pointer (some ⟨b, 0, none⟩)), (1, ei n), (5, vo)] a ∧ w0.grownBy w (some b) ∧ w.heap[b]? = some (.cells ((g.1).map e64 ++ [en r, vl]).toArray 104 (0, 0)) ∧ w.ownsRow w0.heap.size 5 1 vo g.2.2.length ((g.2.2).map e8) ∧ Sl w vl ((g.2.1).map e8)) (fun g => n.toNat - g.2.2.length) (p, l, []) ⟨.slice none 0 0, v, hla, rfl, hl0, (Nat.zero_le _), (fun j h => .inl h), (fun j hj => (nil_own j hj).elim), hvb, (fun j _ hj => (nil_own j hj).elim), ha.to [0, 1, 5] rfl, hB, hbx, (own_castl (l := ([] : List UInt8)) (World.ownsRow_nil _ _ _ _) rfl), (Sl.castM (l := l) hsl0 rfl)⟩ ?_
 clear ha a hB hbx hsl0
 intro g a w11 ⟨vo, vl, hga, hgr, hgl, hgo, hov, hnb_vo_b, hnb_vl_b, hds_vl_vo, ha, hB, hbx, hovo, hsl⟩
 refine wp_seq_k fun K12 k13 => ?_
 refine qr fun K14 k15 => ?_
 refine s4 ha rfl (mv rfl) (mv rfl) (fun _ ha => r_lenS ha Tryz.runUnderlying22 (Sl.ofOwns hovo) rfl (by rw [List.length_map])) (fun _ ha => r_gtr ha n ((g.2.2.length : Nat) : Int) (decide (n > ((g.2.2.length : Nat) : Int))) rfl rfl (decide_eq_decide.2 (by omega))) ?_; intro a ha
 refine k15 _ _ ?_
 refine cond_if ha rfl (fun hc16 => ?_) (fun hc16 => ?_)
 ·skip
  replace hc16 := of_decide_eq_true hc16
  refine wp_skip ?_
  refine k13 _ _ ?_
  refine wp_block ?_
  refine wp_seq_k fun K17 k18 => ?_
  refine qr fun K19 k20 => ?_
  refine s6 ha rfl (mv rfl) (fun _ ha => r_nilCheck ha rfl) (fun _ ha => r_field (k := 26) ha Tryz.runUnderlying104 rfl Tryz.sizeOf22 (by decide) rfl rfl) (fun _ ha => r_load ha rfl Tryz.isAgg22 (cell_of hbx (get_cst (k := 25) 1 (by rw [List.length_map, hga]) rfl))) (fun _ ha => r_lenS ha Tryz.runUnderlying22 hsl rfl (by rw [List.length_map])) (fun _ ha => r_eql ha ((g.2.1.length : Nat) : Int) 0 (decide (g.2.1.length = 0)) rfl rfl (decide_eq_decide.2 (by omega))) ?_; intro a ha
  refine k20 _ _ ?_
  refine cond_if ha rfl (fun hc21 => ?_) (fun hc21 => ?_)
  ·skip
   replace hc21 := of_decide_eq_true hc21
   refine qr fun K22 k23 => ?_
   refine s5 ha rfl (mv rfl) (mv rfl) (fun _ ha => r_nilCheck ha rfl) (fun _ ha => r_field (k := 0) ha Tryz.runUnderlying104 rfl Tryz.sizeOf99 (by decide) rfl rfl) (fun _ ha => r_loadR ha rfl Tryz.isAgg99 Tryz.sizeOf99 (C := (g.1).map e64) (by rw [List.length_map, hga]) (cells_of 0 hbx (by simp [List.take_append_of_le_length, hga]))) ?_; intro a ha
   refine scp ha (r_call ha [.agg ((g.1).map e64).toArray] rfl Tryz.call109) rfl rfl rfl (c_kf g.1 _ (by rw [hga]) (hGk _ hB)) ?_; intro w24 hg a ha
   replace hB := keepM0 hg hB
   replace hbx := keepO0 hg hbx
   replace hovo := keepW0 hg hovo
   replace hsl := keepS0 hg hsl
   refine s2 ha rfl (fun _ ha => r_nilCheck ha rfl) (fun _ ha => r_field (k := 0) ha Tryz.runUnderlying104 rfl Tryz.sizeOf99 (by decide) rfl rfl) ?_; intro a ha
   refine sstoreR ha rfl rfl (one_e64 _) Tryz.sizeOf99 (by rw [List.length_map, kf_len _ (by rw [hga])]) hbx (by simp [kf_len _ (by rw [hga]), hga]) ?_
   intro a w25 ha hg hbx'
   rw [head_set (A := (g.1).map e64) (D := (kf g.1).map e64) [en r, vl] (by rw [List.length_map, List.length_map, hga, kf_len _ (by rw [hga])])] at hbx'
   replace hbx := hbx'
   replace hB := keepM1 hg (by omega) hB
   replace hovo := keepW1 hg (ne_of_ap hnb_vo_b) hovo
   replace hsl := keepS1 hg (ne_of_ap hnb_vl_b) hsl
   refine k23 _ _ ?_
   refine regionD (S := fun w => w0.grownBy w (some b) ∧ w.heap[b]? = some (.cells ((kf g.1).map e64 ++ [en r, vl]).toArray 104 (0, 0)) ∧ w.ownsRow w0.heap.size 5 1 vo g.2.2.length ((g.2.2).map e8) ∧ Sl w vl ((g.2.1).map e8) ∧ True) [12] [0, 1, 2, 3, 4, 5, 6, 7, 8, 10, 11] [0, 1, 2, 3, 4, 5, 6, 7, 8, 9, 10, 11, 12] mixed (by kernel_rfl) (fun w hg => ⟨keepM0 hg hB, keepO0 hg hbx, keepW0 hg hovo, keepS0 hg hsl, trivial⟩) ?_
   intro w26 hg
   replace hB := keepM0 hg hB
   replace hbx := keepO0 hg hbx
   replace hovo := keepW0 hg hovo
   replace hsl := keepS0 hg hsl
   refine c6 ha rfl (cmv rfl) (cmv rfl) (fun w _ _ ha => r_nilCheck ha rfl) (fun w _ _ ha => r_field (k := 0) ha Tryz.runUnderlying104 rfl Tryz.sizeOf99 (by decide) rfl rfl) (fun w ⟨_, hbx, _⟩ _ ha => r_loadR ha rfl Tryz.isAgg99 Tryz.sizeOf99 (C := (kf g.1).map e64) (by rw [List.length_map, kf_len _ (by rw [hga])]) (cells_of 0 hbx (by simp [List.take_append_of_le_length, kf_len _ (by rw [hga])]))) (cmv rfl) ?_; intro a ha
   refine c3 ha rfl (fun w _ _ ha => r_nilCheck ha rfl) (fun w _ _ ha => r_field (k := 25) ha Tryz.runUnderlying104 rfl Tryz.sizeOf3 (by decide) rfl rfl) (fun w ⟨_, hbx, _⟩ _ ha => r_load ha rfl Tryz.isAgg3 (cell_of hbx (get_cst (k := 25) 0 (by rw [List.length_map, kf_len _ (by rw [hga])]) rfl))) ?_; intro a ha
   refine ccx ha rfl rfl (r_call ha [.agg (((kf g.1)).map e64).toArray, en r] rfl Tryz.call104) rfl rfl rfl (c_take (kf g.1) r _ (by rw [kf_len _ (by rw [hga])]) (by omega)) ?_
   rintro e w27 ⟨u28, rfl, hBc, hs28, hd28⟩
   have hg := grown_call hBc
   have hnb_hs28_b := nbn hd28 hbx
   have hds_hs28_hovo := nds hd28 (fun j hj => (hovo.lt j hj).2)
   have hds_hs28_hsl := nds hd28 (fun j hj => hsl.lt j hj)
   replace hd28 : ∀ j, u28.ownBlock = some j → w0.heap.size ≤ j := fun j hj => Nat.le_trans hB.size (hd28 j hj)
   replace hB := keepM0 hg hB
   replace hbx := keepO0 hg hbx
   replace hovo := keepW0 hg hovo
   replace hsl := keepS0 hg hsl
   refine ⟨fun w => (Sl w u28 ((tk (kf g.1) r).map e8)) ∧ w0.grownBy w (some b) ∧ w.heap[b]? = some (.cells ((kf g.1).map e64 ++ [en r, vl]).toArray 104 (0, 0)) ∧ w.ownsRow w0.heap.size 5 1 vo g.2.2.length ((g.2.2).map e8) ∧ Sl w vl ((g.2.1).map e8) ∧ True, fun w h => h.2, fun _ => ⟨hs28, hB, hbx, hovo, hsl, trivial⟩, _, rfl, ?_⟩; intro a ha
   refine c2 ha rfl (fun w _ _ ha => r_nilCheck ha rfl) (fun w _ _ ha => r_field (k := 26) ha Tryz.runUnderlying104 rfl Tryz.sizeOf22 (by decide) rfl rfl) ?_; intro a ha
   refine cstore ha rfl rfl rfl rfl (Sl.one' hs28) (Sl.one hs28) Tryz.sizeOf22 hbx (by simp [kf_len _ (by rw [hga])]) rfl ?_
   intro a w29 ha hg hbx'
   rw [show ((kf g.1).map e64 ++ [en r, vl]).set 26 u28 = ((kf g.1).map e64 ++ [en r, u28]) from tail_set (A := (kf g.1).map e64) (B := [en r, vl]) (x := u28) (k := 25) 1 (by rw [List.length_map, kf_len _ (by rw [hga])])] at hbx'
   replace hbx := hbx'
   replace hB := keepM1 hg (by omega) hB
   replace hovo := keepW1 hg (ne_of_ap hnb_vo_b) hovo
   replace hsl := keepS1 hg (ne_of_ap hnb_vl_b) hsl
   replace hs28 := keepS1 hg (ne_of_ap hnb_hs28_b) hs28
   refine cfin (k18 _ _ ?_)
   refine qr fun K30 k31 => ?_
   refine s6 ha rfl (mv rfl) (mv rfl) (fun _ ha => r_lenS ha Tryz.runUnderlying22 (Sl.ofOwns hovo) rfl (by rw [List.length_map])) (fun _ ha => n_of (r_sub ha n ((g.2.2.length : Nat) : Int) rfl rfl (by omega)) (k := n.toNat - g.2.2.length) (by omega)) (mv rfl) (fun _ ha => r_nilCheck ha rfl) ?_; intro a ha
   refine s5 ha rfl (fun _ ha => r_field (k := 26) ha Tryz.runUnderlying104 rfl Tryz.sizeOf22 (by decide) rfl rfl) (fun _ ha => r_load ha rfl Tryz.isAgg22 (cell_of hbx (get_cst (k := 25) 1 (by rw [List.length_map, kf_len _ (by rw [hga])]) rfl))) (fun _ ha => r_lenS ha Tryz.runUnderlying22 hs28 rfl (by rw [List.length_map])) (fun _ ha => rn_min ha (n.toNat - g.2.2.length) ((tk (kf g.1) r).length) rfl rfl) (av rfl) ?_; intro a ha
   refine k31 _ _ ?_
   refine qr fun K32 k33 => ?_
   refine s6 ha rfl (mv rfl) (mv rfl) (fun _ ha => r_nilCheck ha rfl) (fun _ ha => r_field (k := 26) ha Tryz.runUnderlying104 rfl Tryz.sizeOf22 (by decide) rfl rfl) (fun _ ha => r_load ha rfl Tryz.isAgg22 (cell_of hbx (get_cst (k := 25) 1 (by rw [List.length_map, kf_len _ (by rw [hga])]) rfl))) (mv rfl) ?_; intro a ha
   refine s1 ha rfl (fun _ ha => r_resl (C := (tk (kf g.1) r).map e8) ha 0 (min (n.toNat - g.2.2.length) ((tk (kf g.1) r).length)) Tryz.runUnderlying22 Tryz.sizeOf5 hs28 rfl rfl rfl (by omega) (by rw [List.length_map]; exact (by omega))) ?_; intro a ha
   refine sapp (C := (g.2.2).map e8) (D := (((tk (kf g.1) r).drop 0).take ((min (n.toNat - g.2.2.length) ((tk (kf g.1) r).length)) - 0)).map e8) ha rfl rfl Tryz.underlying22 rfl rfl rfl rfl hovo (Sl.cutM (lo := 0) (hi := min (n.toNat - g.2.2.length) ((tk (kf g.1) r).length)) hs28 (by omega) (by omega)) (one_e8 _) (by simp only [List.length_map, List.length_take, List.length_drop]; show _ * 1 ≤ _; omega) (by simp only [List.length_map, List.length_take, List.length_drop]; omega) hB.size rfl ?_
   intro a w35 v34 ha hg ho34 hnl34 hpl34
   rw [← List.map_append, List.length_map] at ho34
   have hds_ho34_hs28 : ∀ j, v34.ownBlock = some j → u28.ownBlock ≠ some j := fun j h1 h2 => (hpl34 j h1).elim (fun h => (fun j h1 h2 => hds_hs28_hovo j h2 h1) j h h2) (fun h => by have h4 := (fun j hj => hs28.lt j hj) j h2; omega)
   have hne_34_b : ∀ j, v34.ownBlock = some j → j ≠ b := fun j hj => (hpl34 j hj).elim (fun h => hnb_vo_b j h) (fun h => by have := lt_of_block hbx; omega)
   replace hB := keepMR hg (fun j hj => .inr (own_row hovo j hj)) hB
   replace hbx := keepOR hg (ne_of_ap hnb_vo_b) hbx
   replace hs28 := keepSR hg (fun j h1 h2 => hds_hs28_hovo j h2 h1) hs28
   refine s1 ha rfl (av rfl) ?_; intro a ha
   refine k33 _ _ ?_
   refine region ?_
   refine s6 ha rfl (mv rfl) (mv rfl) (fun _ ha => r_nilCheck ha rfl) (fun _ ha => r_field (k := 26) ha Tryz.runUnderlying104 rfl Tryz.sizeOf22 (by decide) rfl rfl) (fun _ ha => r_load ha rfl Tryz.isAgg22 (cell_of hbx (get_cst (k := 25) 1 (by rw [List.length_map, kf_len _ (by rw [hga])]) rfl))) (mv rfl) ?_; intro a ha
   refine s3 ha rfl (fun _ ha => r_resl (C := (tk (kf g.1) r).map e8) ha (min (n.toNat - g.2.2.length) ((tk (kf g.1) r).length)) ((tk (kf g.1) r).length) Tryz.runUnderlying22 Tryz.sizeOf5 hs28 rfl rfl (show (tk (kf g.1) r).length = _ by rw [List.length_map]) (by omega) (by rw [List.length_map]; exact (by omega))) (fun _ ha => r_nilCheck ha rfl) (fun _ ha => r_field (k := 26) ha Tryz.runUnderlying104 rfl Tryz.sizeOf22 (by decide) rfl rfl) ?_; intro a ha
   refine sstore ha rfl rfl (Sl.one' (Sl.castM (Sl.cutM (lo := min (n.toNat - g.2.2.length) ((tk (kf g.1) r).length)) (hi := (tk (kf g.1) r).length) hs28 (by omega) (by omega)) (drop_take_all _ _))) (Sl.one (Sl.castM (Sl.cutM (lo := min (n.toNat - g.2.2.length) ((tk (kf g.1) r).length)) (hi := (tk (kf g.1) r).length) hs28 (by omega) (by omega)) (drop_take_all _ _))) Tryz.sizeOf22 hbx (by simp [kf_len _ (by rw [hga])]) ?_
   intro a w36 ha hg hbx'
   rw [show ((kf g.1).map e64 ++ [en r, u28]).set 26 (rsl u28 (min (n.toNat - g.2.2.length) ((tk (kf g.1) r).length)) ((tk (kf g.1) r).length)) = ((kf g.1).map e64 ++ [en r, rsl u28 (min (n.toNat - g.2.2.length) ((tk (kf g.1) r).length)) ((tk (kf g.1) r).length)]) from tail_set (A := (kf g.1).map e64) (B := [en r, u28]) (x := rsl u28 (min (n.toNat - g.2.2.length) ((tk (kf g.1) r).length)) ((tk (kf g.1) r).length)) (k := 25) 1 (by rw [List.length_map, kf_len _ (by rw [hga])])] at hbx'
   replace hbx := hbx'
   replace hB := keepM1 hg (by omega) hB
   replace hs28 := keepS1 hg (ne_of_ap hnb_hs28_b) hs28
   replace ho34 := keepW1 hg (ne_of_ap hne_34_b) ho34
   have hkl := kf_len g.1 hga
   have htl := tk_len (kf g.1) r hr.2
   have hnew := xrun_new r n.toNat hr g (by omega)
   have hold := xrun_old r n.toNat hr g (by omega)
   generalize kf g.1 = a2 at *
   exact ⟨(a2, (tk a2 r).drop (min (n.toNat - g.2.2.length) ((tk a2 r).length)), g.2.2 ++ (((tk a2 r).drop 0).take ((min (n.toNat - g.2.2.length) ((tk a2 r).length)) - 0))), (by simp only [List.length_append, List.length_take, List.length_drop] at *; omega), v34, rsl u28 (min (n.toNat - g.2.2.length) ((tk a2 r).length)) ((tk a2 r).length), (by first | exact hga | exact hkl), (by first | exact (hold (by assumption)).symm.trans hgr | exact (hnew (by assumption)).symm.trans hgr), (by simp only [List.length_drop]; omega), (by simp only [List.length_append, List.length_take, List.length_drop]; omega), (fun j hj => .inr (hd28 j (own_rsl _ _ j hj))), hne_34_b, (fun j hj => hnb_hs28_b j (own_rsl _ _ j hj)), (fun j hj => (fun j h1 h2 => hds_ho34_hs28 j h2 h1) j (own_rsl _ _ j hj)), ha.to [0, 1, 5] rfl, hB, hbx, (own_castl (own_len ho34) rfl), (Sl.castM (l := (tk a2 r).drop (min (n.toNat - g.2.2.length) ((tk a2 r).length))) (Sl.castM (Sl.cutM (lo := min (n.toNat - g.2.2.length) ((tk a2 r).length)) (hi := (tk a2 r).length) hs28 (by omega) (by omega)) (drop_take_all _ _)) rfl)⟩
  ·skip
   replace hc21 := of_decide_eq_false hc21
   refine wp_skip ?_
   refine k18 _ _ ?_
   refine qr fun K37 k38 => ?_
   refine s6 ha rfl (mv rfl) (mv rfl) (fun _ ha => r_lenS ha Tryz.runUnderlying22 (Sl.ofOwns hovo) rfl (by rw [List.length_map])) (fun _ ha => n_of (r_sub ha n ((g.2.2.length : Nat) : Int) rfl rfl (by omega)) (k := n.toNat - g.2.2.length) (by omega)) (mv rfl) (fun _ ha => r_nilCheck ha rfl) ?_; intro a ha
   refine s5 ha rfl (fun _ ha => r_field (k := 26) ha Tryz.runUnderlying104 rfl Tryz.sizeOf22 (by decide) rfl rfl) (fun _ ha => r_load ha rfl Tryz.isAgg22 (cell_of hbx (get_cst (k := 25) 1 (by rw [List.length_map, hga]) rfl))) (fun _ ha => r_lenS ha Tryz.runUnderlying22 hsl rfl (by rw [List.length_map])) (fun _ ha => rn_min ha (n.toNat - g.2.2.length) g.2.1.length rfl rfl) (av rfl) ?_; intro a ha
   refine k38 _ _ ?_
   refine qr fun K39 k40 => ?_
   refine s6 ha rfl (mv rfl) (mv rfl) (fun _ ha => r_nilCheck ha rfl) (fun _ ha => r_field (k := 26) ha Tryz.runUnderlying104 rfl Tryz.sizeOf22 (by decide) rfl rfl) (fun _ ha => r_load ha rfl Tryz.isAgg22 (cell_of hbx (get_cst (k := 25) 1 (by rw [List.length_map, hga]) rfl))) (mv rfl) ?_; intro a ha
   refine s1 ha rfl (fun _ ha => r_resl (C := (g.2.1).map e8) ha 0 (min (n.toNat - g.2.2.length) g.2.1.length) Tryz.runUnderlying22 Tryz.sizeOf5 hsl rfl rfl rfl (by omega) (by rw [List.length_map]; exact (by omega))) ?_; intro a ha
   refine sapp (C := (g.2.2).map e8) (D := ((g.2.1.drop 0).take ((min (n.toNat - g.2.2.length) g.2.1.length) - 0)).map e8) ha rfl rfl Tryz.underlying22 rfl rfl rfl rfl hovo (Sl.cutM (lo := 0) (hi := min (n.toNat - g.2.2.length) g.2.1.length) hsl (by omega) (by omega)) (one_e8 _) (by simp only [List.length_map, List.length_take, List.length_drop]; show _ * 1 ≤ _; omega) (by simp only [List.length_map, List.length_take, List.length_drop]; omega) hB.size rfl ?_
   intro a w42 v41 ha hg ho41 hnl41 hpl41
   rw [← List.map_append, List.length_map] at ho41
   have hds_ho41_hsl : ∀ j, v41.ownBlock = some j → vl.ownBlock ≠ some j := fun j h1 h2 => (hpl41 j h1).elim (fun h => (fun j h1 h2 => hds_vl_vo j h2 h1) j h h2) (fun h => by have h4 := (fun j hj => hsl.lt j hj) j h2; omega)
   have hne_41_b : ∀ j, v41.ownBlock = some j → j ≠ b := fun j hj => (hpl41 j hj).elim (fun h => hnb_vo_b j h) (fun h => by have := lt_of_block hbx; omega)
   replace hB := keepMR hg (fun j hj => .inr (own_row hovo j hj)) hB
   replace hbx := keepOR hg (ne_of_ap hnb_vo_b) hbx
   replace hsl := keepSR hg (fun j h1 h2 => hds_vl_vo j h2 h1) hsl
   refine s1 ha rfl (av rfl) ?_; intro a ha
   refine k40 _ _ ?_
   refine region ?_
   refine s6 ha rfl (mv rfl) (mv rfl) (fun _ ha => r_nilCheck ha rfl) (fun _ ha => r_field (k := 26) ha Tryz.runUnderlying104 rfl Tryz.sizeOf22 (by decide) rfl rfl) (fun _ ha => r_load ha rfl Tryz.isAgg22 (cell_of hbx (get_cst (k := 25) 1 (by rw [List.length_map, hga]) rfl))) (mv rfl) ?_; intro a ha
   refine s3 ha rfl (fun _ ha => r_resl (C := (g.2.1).map e8) ha (min (n.toNat - g.2.2.length) g.2.1.length) g.2.1.length Tryz.runUnderlying22 Tryz.sizeOf5 hsl rfl rfl (show g.2.1.length = _ by rw [List.length_map]) (by omega) (by rw [List.length_map]; exact (by omega))) (fun _ ha => r_nilCheck ha rfl) (fun _ ha => r_field (k := 26) ha Tryz.runUnderlying104 rfl Tryz.sizeOf22 (by decide) rfl rfl) ?_; intro a ha
   refine sstore ha rfl rfl (Sl.one' (Sl.castM (Sl.cutM (lo := min (n.toNat - g.2.2.length) g.2.1.length) (hi := g.2.1.length) hsl (by omega) (by omega)) (drop_take_all _ _))) (Sl.one (Sl.castM (Sl.cutM (lo := min (n.toNat - g.2.2.length) g.2.1.length) (hi := g.2.1.length) hsl (by omega) (by omega)) (drop_take_all _ _))) Tryz.sizeOf22 hbx (by simp [hga]) ?_
   intro a w43 ha hg hbx'
   rw [show ((g.1).map e64 ++ [en r, vl]).set 26 (rsl vl (min (n.toNat - g.2.2.length) g.2.1.length) g.2.1.length) = ((g.1).map e64 ++ [en r, rsl vl (min (n.toNat - g.2.2.length) g.2.1.length) g.2.1.length]) from tail_set (A := (g.1).map e64) (B := [en r, vl]) (x := rsl vl (min (n.toNat - g.2.2.length) g.2.1.length) g.2.1.length) (k := 25) 1 (by rw [List.length_map, hga])] at hbx'
   replace hbx := hbx'
   replace hB := keepM1 hg (by omega) hB
   replace hsl := keepS1 hg (ne_of_ap hnb_vl_b) hsl
   replace ho41 := keepW1 hg (ne_of_ap hne_41_b) ho41
   have hkl := kf_len g.1 hga
   have htl := tk_len (kf g.1) r hr.2
   have hnew := xrun_new r n.toNat hr g (by omega)
   have hold := xrun_old r n.toNat hr g (by omega)
   generalize kf g.1 = a2 at *
   exact ⟨(g.1, g.2.1.drop (min (n.toNat - g.2.2.length) g.2.1.length), g.2.2 ++ ((g.2.1.drop 0).take ((min (n.toNat - g.2.2.length) g.2.1.length) - 0))), (by simp only [List.length_append, List.length_take, List.length_drop] at *; omega), v41, rsl vl (min (n.toNat - g.2.2.length) g.2.1.length) g.2.1.length, (by first | exact hga | exact hkl), (by first | exact (hold (by assumption)).symm.trans hgr | exact (hnew (by assumption)).symm.trans hgr), (by simp only [List.length_drop]; omega), (by simp only [List.length_append, List.length_take, List.length_drop]; omega), (fun j hj => hov j (own_rsl _ _ j hj)), hne_41_b, (fun j hj => hnb_vl_b j (own_rsl _ _ j hj)), (fun j hj => (fun j h1 h2 => hds_ho41_hsl j h2 h1) j (own_rsl _ _ j hj)), ha.to [0, 1, 5] rfl, hB, hbx, (own_castl (own_len ho41) rfl), (Sl.castM (l := g.2.1.drop (min (n.toNat - g.2.2.length) g.2.1.length)) (Sl.castM (Sl.cutM (lo := min (n.toNat - g.2.2.length) g.2.1.length) (hi := g.2.1.length) hsl (by omega) (by omega)) (drop_take_all _ _)) rfl)⟩
 ·skip
  replace hc16 := of_decide_eq_false hc16
  refine wp_exit ?_
  refine k10 _ _ ?_
  refine qr fun K44 k45 => ?_
  refine s2 ha rfl (mv rfl) (av rfl) ?_; intro a ha
  refine k45 _ _ ?_
  refine wp_ret ?_
  have hfin : xrun r n.toNat (p, l, []) = g := hgr.symm.trans (xrun_done _ _ _ (by omega))
  exact ret1 ha Tryz.results72 rfl (by rw [hfin]; exact ⟨_, _, rfl, hB, hbx, hsl, hov, hovo, fun j h1 h2 => hds_vl_vo j h2 h1⟩)
end Go.Proofs.YtaignhikdfpbbaaGreatDoor

/- WALKS written by gen.py (own program) out of specs. -/
namespace Go.Proofs.YtaignhikdfpbbaaGreatDoor
open Go.RowKit Go.Rx
set_option maxRecDepth 100000
set_option maxHeartbeats 4000000
set_option linter.unusedVariables false
set_option linter.unusedSimpArgs false

theorem c_rload (v : Value) (b : List UInt8) (w0 : World) (hs : Sl w0 v (b.map e8)) (hb : b.length ≤ 8) :
    Calls Tryz.prog 127 #[v] w0 fun e w' => e = .returned (e64 (ldR b)) ∧ Below w0.heap.size w0 w' := by
 refine enter (args := [_]) Tryz.func127 rfl Tryz.ntmps127 rfl ?_
 intro a ha
 have hB := Below.refl w0.heap.size w0
 refine qr fun K1 k2 => ?_
 refine s1 ha rfl (av rfl) ?_; intro a ha
 refine k2 _ _ ?_
 refine qr fun K3 k4 => ?_
 refine s1 ha rfl (av rfl) ?_; intro a ha
 refine k4 _ _ ?_
 refine qr fun K5 k6 => ?_
 refine s3 ha rfl (mv rfl) (fun _ ha => r_lenS ha Tryz.runUnderlying22 (hs.below hB) rfl (by rw [List.length_map])) (av rfl) ?_; intro a ha
 refine k6 _ _ ?_
 refine wp_seq_k fun K7 k8 => ?_
 refine qr fun K9 k10 => ?_
 refine s2 ha rfl (mv rfl) (fun _ ha => r_gtr ha ((b.length : Nat) : Int) 8 false rfl rfl (decide_eq_false (by omega))) ?_; intro a ha
 refine k10 _ _ ?_
 refine cond_f ha rfl ?_
 refine wp_skip ?_
 refine k8 _ _ ?_
 refine wp_seq_k fun K11 k12 => ?_
 refine qr fun K13 k14 => ?_
 refine s3 ha rfl (mv rfl) (fun _ ha => r_sub ha ((b.length : Nat) : Int) 1 rfl rfl (by omega)) (av rfl) ?_; intro a ha
 refine k14 _ _ ?_
 refine wp_block ?_
 refine loopG (fun (k : Nat) a w => (k ≤ b.length) ∧ Has 25 [(0, v), (5, ei (((k : Nat) : Int) - 1)), (3, e64 (ldR (b.drop k)))] a ∧ Below w0.heap.size w0 w) (fun k => k) b.length ⟨(Nat.le_refl _), ha.to [0, 5, 3] (by rw [List.drop_length]; rfl), hB⟩ ?_
 clear ha a hB
 intro k a w15 ⟨hkk, ha, hB⟩
 refine wp_seq_k fun K16 k17 => ?_
 refine qr fun K18 k19 => ?_
 refine s2 ha rfl (mv rfl) (fun _ ha => r_geq ha (((k : Nat) : Int) - 1) 0 (decide (((k : Nat) : Int) - 1 ≥ 0)) rfl rfl (decide_eq_decide.2 (by omega))) ?_; intro a ha
 refine k19 _ _ ?_
 refine cond_if ha rfl (fun hc20 => ?_) (fun hc20 => ?_)
 ·skip
  replace hc20 := of_decide_eq_true hc20
  refine wp_skip ?_
  refine k17 _ _ ?_
  refine wp_seq_k fun K21 k22 => ?_
  refine wp_block ?_
  refine region ?_
  refine s6 ha rfl (mv rfl) (fun _ ha => ru_mul ha (ldR (b.drop k)) (256 : UInt64) rfl rfl) (mv rfl) (fun _ ha => n_of (r_move ha rfl) (k := k - 1) (by omega)) (fun _ ha => r_indexS (i := k - 1) ha Tryz.runUnderlying22 Tryz.sizeOf5 (hs.below hB) (C := (b).map e8) rfl rfl (by rw [List.length_map]; omega)) (fun _ ha => r_loadS ha rfl Tryz.isAgg5 (hs.below hB) (get_map e8 b 0 (k - 1) (by omega))) ?_; intro a ha
  refine s3 ha rfl (fun _ ha => r_conv_u8_u64 ha (b.getD (k - 1) 0) Tryz.runUnderlying5 Tryz.runUnderlying98 rfl) (fun _ ha => v_of (ru_add ha ((ldR (b.drop k)) * (256 : UInt64)) ((b.getD (k - 1) 0).toUInt64) rfl rfl) (congrArg e64 (ldR_step b k (by omega) (by omega) : ((ldR (b.drop k)) * (256 : UInt64)) + ((b.getD (k - 1) 0).toUInt64) = ldR (b.drop (k - 1))))) (av rfl) ?_; intro a ha
  refine k22 _ _ ?_
  refine region ?_
  refine s3 ha rfl (mv rfl) (fun _ ha => z_of (r_sub ha (((k : Nat) : Int) - 1) 1 rfl rfl (by omega)) (k := ((k - 1 : Nat) : Int) - 1) (by omega)) (av rfl) ?_; intro a ha
  exact ⟨k - 1, by omega, (by omega), ha.to [0, 5, 3] rfl, hB⟩
 ·skip
  replace hc20 := of_decide_eq_false hc20
  refine wp_exit ?_
  refine k12 _ _ ?_
  refine qr fun K23 k24 => ?_
  refine s2 ha rfl (mv rfl) (av rfl) ?_; intro a ha
  refine k24 _ _ ?_
  refine wp_ret ?_
  exact ret1 ha Tryz.results127 rfl ⟨(by have h0 : k = 0 := (by omega); subst h0; rfl), hB⟩

theorem c_rstore (x : UInt64) (w0 : World) :
    Calls Tryz.prog 123 #[e64 x, en 8] w0 fun e w' => ∃ u0 : Value, e = .returned (u0) ∧ Below w0.heap.size w0 w' ∧ Sl w' u0 ((rs8 x).map e8) ∧ (∀ j, u0.ownBlock = some j → w0.heap.size ≤ j) := by
 refine enter (args := [_, _]) Tryz.func123 rfl Tryz.ntmps123 rfl ?_
 intro a ha
 have hB := Below.refl w0.heap.size w0
 refine qr fun K1 k2 => ?_
 refine s1 ha rfl (av rfl) ?_; intro a ha
 refine k2 _ _ ?_
 refine qr fun K3 k4 => ?_
 refine s1 ha rfl (av rfl) ?_; intro a ha
 refine k4 _ _ ?_
 refine wp_seq_k fun K5 k6 => ?_
 refine qr fun K7 k8 => ?_
 refine s1 ha rfl (av rfl) ?_; intro a ha
 refine k8 _ _ ?_
 refine wp_block ?_
 refine loopG (fun (k : Nat) a w => ∃ vo : Value, (k ≤ 8) ∧ Has 25 [(1, en 8), (6, en k), (0, e64 (rsX x k)), (5, vo)] a ∧ Below w0.heap.size w0 w ∧ w.ownsRow w0.heap.size 5 1 vo (rsA x k).length ((rsA x k).map e8)) (fun k => 8 - k) 0 ⟨.slice none 0 0, (by omega), ha.to [1, 6, 0, 5] rfl, hB, (own_castl (l := ([] : List UInt8)) (World.ownsRow_nil _ _ _ _) rfl)⟩ ?_
 clear ha a hB
 intro k a w9 ⟨vo, hkk, ha, hB, hovo⟩
 have hra := rsA_len x k
 refine wp_seq_k fun K10 k11 => ?_
 refine qr fun K12 k13 => ?_
 refine s4 ha rfl (mv rfl) (mv rfl) (fun _ ha => r_lss ha ((k : Nat) : Int) ((8 : Nat) : Int) (decide (k < 8)) rfl rfl (decide_eq_decide.2 (by omega))) (mv rfl) ?_; intro a ha
 cases hq14 : (decide (k < 8))
 all_goals rw [hq14] at ha
 case false =>
  replace hq14 := of_decide_eq_false hq14
  refine sno ha rfl rfl rfl rfl rfl rfl ?_; intro a ha
  refine sno ha rfl rfl rfl rfl rfl rfl ?_; intro a ha
  refine s1 ha rfl (fun _ ha => r_pick ha false rfl rfl) ?_; intro a ha
  refine k13 _ _ ?_
  refine cond_f ha rfl ?_
  refine wp_exit ?_
  obtain rfl : k = 8 := by omega
  refine k6 _ _ ?_
  refine qr fun K15 k16 => ?_
  refine s2 ha rfl (mv rfl) (av rfl) ?_; intro a ha
  refine k16 _ _ ?_
  refine wp_ret ?_
  exact ret1 ha Tryz.results123 rfl ⟨_, rfl, hB, (Sl.castM (l := rsA x 8) (Sl.ofOwns hovo) rfl), (own_row hovo)⟩
 case true =>
  replace hq14 := of_decide_eq_true hq14
  refine svg ha (r_move ha rfl) rfl rfl rfl rfl rfl ?_; intro a ha
  refine svg ha (r_lss ha ((k : Nat) : Int) 8 true rfl rfl (decide_eq_true (by omega))) rfl rfl rfl rfl rfl ?_; intro a ha
  refine s1 ha rfl (fun _ ha => r_pick ha true rfl rfl) ?_; intro a ha
  refine k13 _ _ ?_
  refine cond_t ha rfl ?_
  refine wp_skip ?_
  refine k11 _ _ ?_
  refine wp_seq_k fun K17 k18 => ?_
  refine wp_block ?_
  refine qr fun K19 k20 => ?_
  refine s4 ha rfl (mv rfl) (mv rfl) (fun _ ha => ru_rem ha (rsX x k) (256 : UInt64) rfl rfl (by decide)) (fun _ ha => r_conv_u64_u8 ha ((rsX x k) % (256 : UInt64)) Tryz.runUnderlying98 Tryz.runUnderlying5 rfl) ?_; intro a ha
  refine sbuildS ha [(0, e8 (((rsX x k) % (256 : UInt64)).toUInt8))] (([((rsX x k) % (256 : UInt64)).toUInt8] : List UInt8).map e8) rfl Tryz.runUnderlying22 Tryz.sizeOf5 Tryz.zeroValue5 rfl rfl rfl rfl rfl ?_
  intro a w21 b22 ha hg hb22 hge22 hlt22
  have hz22 := Nat.le_trans hB.size hge22
  have hne_hovo_b22 : ∀ j, Value.ownBlock vo = some j → j ≠ b22 := fun j hj => by have := (hovo.lt j hj).2; omega
  replace hB := keepB0 hg hB
  replace hovo := keepW0 hg hovo
  refine sapp (C := ((rsA x k)).map e8) (D := (([((rsX x k) % (256 : UInt64)).toUInt8] : List UInt8)).map e8) ha rfl rfl Tryz.underlying22 rfl rfl rfl rfl hovo (Sl.ofBlockM hb22 (by rw [show ([((rsX x k) % (256 : UInt64)).toUInt8] : List UInt8).length = 1 from rfl]) (by omega)) (one_e8 _) (by simp only [List.length_map, show ([((rsX x k) % (256 : UInt64)).toUInt8] : List UInt8).length = 1 from rfl]; show _ * 1 ≤ _; omega) (by simp only [List.length_map, show ([((rsX x k) % (256 : UInt64)).toUInt8] : List UInt8).length = 1 from rfl]; omega) hB.size rfl ?_
  intro a w24 v23 ha hg ho23 hnl23 hpl23
  rw [← List.map_append, List.length_map, show ([((rsX x k) % (256 : UInt64)).toUInt8] : List UInt8).length = 1 from rfl] at ho23
  rw [List.length_map, show ([((rsX x k) % (256 : UInt64)).toUInt8] : List UInt8).length = 1 from rfl] at hnl23
  have hne_23_b22 : ∀ j, v23.ownBlock = some j → j ≠ b22 := fun j hj => (hpl23 j hj).elim (fun h => hne_hovo_b22 j h) (fun h => by have := lt_of_block hb22; omega)
  replace hB := keepBR hg (own_row hovo) hB
  replace hb22 := keepOR hg (ne_of_ap hne_hovo_b22) hb22
  refine s1 ha rfl (av rfl) ?_; intro a ha
  refine k20 _ _ ?_
  refine region ?_
  refine s3 ha rfl (mv rfl) (fun _ ha => ru_quo ha (rsX x k) (256 : UInt64) rfl rfl (by decide)) (av rfl) ?_; intro a ha
  refine k18 _ _ ?_
  refine region ?_
  refine s3 ha rfl (mv rfl) (fun _ ha => rn_add ha k 1 rfl rfl (by omega)) (av rfl) ?_; intro a ha
  exact ⟨k + 1, by omega, v23, (by omega), ha.to [1, 6, 0, 5] rfl, hB, (own_castl (own_len ho23) rfl)⟩

theorem c_rbytes (v : Value) (p : List UInt64) (w0 : World) (hs : Sl w0 v (p.map e64)) (hl : p.length = 25) :
    Calls Tryz.prog 110 #[v] w0 fun e w' => ∃ u0 : Value, e = .returned (u0) ∧ Below w0.heap.size w0 w' ∧ w'.ownsRow w0.heap.size 5 1 u0 (rby p).length ((rby p).map e8) := by
 refine enter (args := [_]) Tryz.func110 rfl Tryz.ntmps110 rfl ?_
 intro a ha
 have hB := Below.refl w0.heap.size w0
 refine qr fun K1 k2 => ?_
 refine s1 ha rfl (av rfl) ?_; intro a ha
 refine k2 _ _ ?_
 refine qr fun K3 k4 => ?_
 refine s1 ha rfl (av rfl) ?_; intro a ha
 refine k4 _ _ ?_
 refine wp_seq_k fun K5 k6 => ?_
 refine qr fun K7 k8 => ?_
 refine s1 ha rfl (av rfl) ?_; intro a ha
 refine k8 _ _ ?_
 refine wp_block ?_
 refine loopG (fun (k : Nat) a w => ∃ vo : Value, (k ≤ 25) ∧ Has 17 [(0, v), (4, en k), (3, vo)] a ∧ Below w0.heap.size w0 w ∧ w.ownsRow w0.heap.size 5 1 vo (rbA p k).length ((rbA p k).map e8)) (fun k => 25 - k) 0 ⟨.slice none 0 0, (by omega), ha.to [0, 4, 3] rfl, hB, (own_castl (l := ([] : List UInt8)) (World.ownsRow_nil _ _ _ _) rfl)⟩ ?_
 clear ha a hB
 intro k a w9 ⟨vo, hkk, ha, hB, hovo⟩
 have hra := rbA_len p k
 refine wp_seq_k fun K10 k11 => ?_
 refine qr fun K12 k13 => ?_
 refine s2 ha rfl (mv rfl) (fun _ ha => r_lss ha ((k : Nat) : Int) 25 (decide (k < 25)) rfl rfl (decide_eq_decide.2 (by omega))) ?_; intro a ha
 refine k13 _ _ ?_
 refine cond_if ha rfl (fun hc14 => ?_) (fun hc14 => ?_)
 ·skip
  replace hc14 := of_decide_eq_true hc14
  refine wp_skip ?_
  refine k11 _ _ ?_
  refine wp_seq_k fun K15 k16 => ?_
  refine wp_block ?_
  refine region ?_
  refine s5 ha rfl (mv rfl) (mv rfl) (mv rfl) (fun _ ha => r_indexS (i := k) ha Tryz.runUnderlying86 Tryz.sizeOf98 (hs.below hB) (C := (p).map e64) rfl rfl (by rw [List.length_map, hl]; omega)) (fun _ ha => r_loadS ha rfl Tryz.isAgg98 (hs.below hB) (get_map e64 p 0 k (by rw [hl]; omega))) ?_; intro a ha
  refine sc ha (r_call ha [e64 (p.getD k 0), en 8] rfl Tryz.call123) rfl rfl rfl (c_rstore (p.getD k 0) _ ) ?_
  rintro e w17 ⟨u18, rfl, hBc, hs18, hd18⟩
  have hg := grown_call hBc
  have hds_hs18_hovo := nds hd18 (fun j hj => (hovo.lt j hj).2)
  replace hd18 : ∀ j, u18.ownBlock = some j → w0.heap.size ≤ j := fun j hj => Nat.le_trans hB.size (hd18 j hj)
  replace hB := keepB0 hg hB
  replace hovo := keepW0 hg hovo
  refine ⟨_, rfl, ?_⟩; intro a ha
  refine sapp (C := ((rbA p k)).map e8) (D := (rs8 (p.getD k 0)).map e8) ha rfl rfl Tryz.underlying22 rfl rfl rfl rfl hovo hs18 (one_e8 _) (by simp only [List.length_map, rs8_len]; show _ * 1 ≤ _; omega) (by simp only [List.length_map, rs8_len]; omega) hB.size rfl ?_
  intro a w20 v19 ha hg ho19 hnl19 hpl19
  rw [← List.map_append, List.length_map, rs8_len] at ho19
  rw [List.length_map, rs8_len] at hnl19
  have hds_ho19_hs18 : ∀ j, v19.ownBlock = some j → u18.ownBlock ≠ some j := fun j h1 h2 => (hpl19 j h1).elim (fun h => (fun j h1 h2 => hds_hs18_hovo j h2 h1) j h h2) (fun h => by have h4 := (fun j hj => hs18.lt j hj) j h2; omega)
  replace hB := keepBR hg (own_row hovo) hB
  replace hs18 := keepSR hg (fun j h1 h2 => hds_hs18_hovo j h2 h1) hs18
  refine s1 ha rfl (av rfl) ?_; intro a ha
  refine k16 _ _ ?_
  refine region ?_
  refine s3 ha rfl (mv rfl) (fun _ ha => rn_add ha k 1 rfl rfl (by omega)) (av rfl) ?_; intro a ha
  exact ⟨k + 1, by omega, v19, (by omega), ha.to [0, 4, 3] rfl, hB, (own_castl (own_len ho19) rfl)⟩
 ·skip
  replace hc14 := of_decide_eq_false hc14
  refine wp_exit ?_
  obtain rfl : k = 25 := by omega
  refine k6 _ _ ?_
  refine qr fun K21 k22 => ?_
  refine s2 ha rfl (mv rfl) (av rfl) ?_; intro a ha
  refine k22 _ _ ?_
  refine wp_ret ?_
  exact ret1 ha Tryz.results110 rfl ⟨_, rfl, hB, (own_castl (own_len hovo) rfl)⟩

theorem c_rstate (v : Value) (b : List UInt8) (w0 : World) (hs : Sl w0 v (b.map e8)) (hl : b.length = 200) :
    Calls Tryz.prog 112 #[v] w0 fun e w' => ∃ u0 : Value, e = .returned (u0) ∧ Below w0.heap.size w0 w' ∧ Sl w' u0 ((rst b).map e64) ∧ (∀ j, u0.ownBlock = some j → w0.heap.size ≤ j) := by
 refine enter (args := [_]) Tryz.func112 rfl Tryz.ntmps112 rfl ?_
 intro a ha
 have hB := Below.refl w0.heap.size w0
 refine qr fun K1 k2 => ?_
 refine s1 ha rfl (av rfl) ?_; intro a ha
 refine k2 _ _ ?_
 refine qr fun K3 k4 => ?_
 refine s1 ha rfl (av rfl) ?_; intro a ha
 refine k4 _ _ ?_
 refine wp_seq_k fun K5 k6 => ?_
 refine qr fun K7 k8 => ?_
 refine s1 ha rfl (av rfl) ?_; intro a ha
 refine k8 _ _ ?_
 refine wp_block ?_
 refine loopG (fun (k : Nat) a w => ∃ vo : Value, (k ≤ 25) ∧ Has 21 [(0, v), (4, en k), (3, vo)] a ∧ Below w0.heap.size w0 w ∧ w.ownsRow w0.heap.size 98 1 vo (rstA b k).length ((rstA b k).map e64)) (fun k => 25 - k) 0 ⟨.slice none 0 0, (by omega), ha.to [0, 4, 3] rfl, hB, (own_castl (l := ([] : List UInt64)) (World.ownsRow_nil _ _ _ _) rfl)⟩ ?_
 clear ha a hB
 intro k a w9 ⟨vo, hkk, ha, hB, hovo⟩
 have hra := rstA_len b k
 refine wp_seq_k fun K10 k11 => ?_
 refine qr fun K12 k13 => ?_
 refine s2 ha rfl (mv rfl) (fun _ ha => r_lss ha ((k : Nat) : Int) 25 (decide (k < 25)) rfl rfl (decide_eq_decide.2 (by omega))) ?_; intro a ha
 refine k13 _ _ ?_
 refine cond_if ha rfl (fun hc14 => ?_) (fun hc14 => ?_)
 ·skip
  replace hc14 := of_decide_eq_true hc14
  refine wp_skip ?_
  refine k11 _ _ ?_
  refine wp_seq_k fun K15 k16 => ?_
  refine wp_block ?_
  refine region ?_
  refine s6 ha rfl (mv rfl) (mv rfl) (mv rfl) (fun _ ha => rn_mul ha 8 k rfl rfl (by omega)) (mv rfl) (fun _ ha => rn_mul ha 8 k rfl rfl (by omega)) ?_; intro a ha
  refine s2 ha rfl (fun _ ha => rn_add ha (8 * k) 8 rfl rfl (by omega)) (fun _ ha => r_resl (C := (b).map e8) ha (8 * k) ((8 * k) + 8) Tryz.runUnderlying22 Tryz.sizeOf5 (hs.below hB) rfl rfl rfl (by omega) (by rw [List.length_map]; exact (by omega))) ?_; intro a ha
  refine scp ha (r_call ha [(rsl v (8 * k) ((8 * k) + 8))] rfl Tryz.call127) rfl rfl rfl (c_rload (rsl v (8 * k) ((8 * k) + 8)) ((b.drop (8 * k)).take (((8 * k) + 8) - (8 * k))) _ (Sl.cutM (lo := 8 * k) (hi := (8 * k) + 8) (hs.below hB) (by omega) (by omega)) (by rw [List.length_take]; omega)) ?_; intro w17 hg a ha
  replace hB := keepB0 hg hB
  replace hovo := keepW0 hg hovo
  refine sbuildS ha [(0, e64 (ldR ((b.drop (8 * k)).take (((8 * k) + 8) - (8 * k)))))] (([ldR ((b.drop (8 * k)).take (((8 * k) + 8) - (8 * k)))] : List UInt64).map e64) rfl Tryz.runUnderlying86 Tryz.sizeOf98 Tryz.zeroValue98 rfl rfl rfl rfl rfl ?_
  intro a w18 b19 ha hg hb19 hge19 hlt19
  have hz19 := Nat.le_trans hB.size hge19
  have hne_hovo_b19 : ∀ j, Value.ownBlock vo = some j → j ≠ b19 := fun j hj => by have := (hovo.lt j hj).2; omega
  replace hB := keepB0 hg hB
  replace hovo := keepW0 hg hovo
  refine sapp (C := ((rstA b k)).map e64) (D := (([ldR ((b.drop (8 * k)).take (((8 * k) + 8) - (8 * k)))] : List UInt64)).map e64) ha rfl rfl Tryz.underlying86 rfl rfl rfl rfl hovo (Sl.ofBlockM hb19 (by rw [show ([ldR ((b.drop (8 * k)).take (((8 * k) + 8) - (8 * k)))] : List UInt64).length = 1 from rfl]) (by omega)) (one_e64 _) (by simp only [List.length_map, show ([ldR ((b.drop (8 * k)).take (((8 * k) + 8) - (8 * k)))] : List UInt64).length = 1 from rfl]; show _ * 8 ≤ _; omega) (by simp only [List.length_map, show ([ldR ((b.drop (8 * k)).take (((8 * k) + 8) - (8 * k)))] : List UInt64).length = 1 from rfl]; omega) hB.size rfl ?_
  intro a w21 v20 ha hg ho20 hnl20 hpl20
  rw [← List.map_append, List.length_map, show ([ldR ((b.drop (8 * k)).take (((8 * k) + 8) - (8 * k)))] : List UInt64).length = 1 from rfl] at ho20
  rw [List.length_map, show ([ldR ((b.drop (8 * k)).take (((8 * k) + 8) - (8 * k)))] : List UInt64).length = 1 from rfl] at hnl20
  have hne_20_b19 : ∀ j, v20.ownBlock = some j → j ≠ b19 := fun j hj => (hpl20 j hj).elim (fun h => hne_hovo_b19 j h) (fun h => by have := lt_of_block hb19; omega)
  replace hB := keepBR hg (own_row hovo) hB
  replace hb19 := keepOR hg (ne_of_ap hne_hovo_b19) hb19
  refine s1 ha rfl (av rfl) ?_; intro a ha
  refine k16 _ _ ?_
  refine region ?_
  refine s3 ha rfl (mv rfl) (fun _ ha => rn_add ha k 1 rfl rfl (by omega)) (av rfl) ?_; intro a ha
  exact ⟨k + 1, by omega, v20, (by omega), ha.to [0, 4, 3] rfl, hB, (own_castl (own_len ho20) rfl)⟩
 ·skip
  replace hc14 := of_decide_eq_false hc14
  refine wp_exit ?_
  obtain rfl : k = 25 := by omega
  refine k6 _ _ ?_
  refine qr fun K22 k23 => ?_
  refine s2 ha rfl (mv rfl) (av rfl) ?_; intro a ha
  refine k23 _ _ ?_
  refine wp_ret ?_
  exact ret1 ha Tryz.results112 rfl ⟨_, rfl, hB, (Sl.castM (l := rstA b 25) (Sl.ofOwns hovo) rfl), (own_row hovo)⟩

end Go.Proofs.YtaignhikdfpbbaaGreatDoor

/- WALKS written by gen.py (own program) out of specs. -/
namespace Go.Proofs.YtaignhikdfpbbaaGreatDoor
open Go.RowKit Go.Rx
set_option maxRecDepth 100000
set_option maxHeartbeats 4000000
set_option linter.unusedVariables false
set_option linter.unusedSimpArgs false

theorem c_rabsN (r : Nat) (s : UInt8) (v : Value) (b : List UInt8) (w0 : World) (hr : 1 ≤ r ∧ r ≤ 200) (hs : Sl w0 v (b.map e8)) (hb : b.length ≤ 100000) :
    Calls Tryz.prog 77 #[en r, e8 s, v] w0 fun e w' => ∃ u0 : Value, e = .returned (u0) ∧ Below w0.heap.size w0 w' ∧ Sl w' u0 ((rabA r s b (nbk b r)).map e64) ∧ (∀ j, u0.ownBlock = some j → w0.heap.size ≤ j) := by
 refine enter (args := [_, _, _]) Tryz.func77 rfl Tryz.ntmps77 rfl ?_
 intro a ha
 have hB := Below.refl w0.heap.size w0
 have hr1 : 1 ≤ r := hr.1
 refine qr fun K1 k2 => ?_
 refine s1 ha rfl (av rfl) ?_; intro a ha
 refine k2 _ _ ?_
 refine qr fun K3 k4 => ?_
 refine smake (k := 25) ha rfl rfl Tryz.underlying86 rfl rfl rfl rfl (show 8 * _ ≤ _ by omega) (by omega) rfl ?_
 intro a w5 b6 ha hg hb6 hge6 hlt6
 have hz6 := Nat.le_trans hB.size hge6
 replace hB := keepB0 hg hB
 rw [show (List.replicate 25 (Value.int .u64 0)) = (List.replicate 25 (0 : UInt64)).map e64 by rw [List.map_replicate]; rfl] at hb6
 refine s1 ha rfl (av rfl) ?_; intro a ha
 refine k4 _ _ ?_
 refine wp_seq_k fun K7 k8 => ?_
 refine qr fun K9 k10 => ?_
 refine s3 ha rfl (mv rfl) (fun _ ha => r_lss ha ((r : Nat) : Int) 1 false rfl rfl (decide_eq_false (by omega))) (mv rfl) ?_; intro a ha
 refine svg ha (r_move ha rfl) rfl rfl rfl rfl rfl ?_; intro a ha
 refine svg ha (r_gtr ha ((r : Nat) : Int) 200 false rfl rfl (decide_eq_false (by omega))) rfl rfl rfl rfl rfl ?_; intro a ha
 refine s1 ha rfl (fun _ ha => r_pick ha false rfl rfl) ?_; intro a ha
 refine k10 _ _ ?_
 refine cond_f ha rfl ?_
 refine wp_skip ?_
 refine k8 _ _ ?_
 refine qr fun K11 k12 => ?_
 refine s1 ha rfl (av rfl) ?_; intro a ha
 refine k12 _ _ ?_
 refine qr fun K13 k14 => ?_
 refine s2 ha rfl (mv rfl) (mv rfl) ?_; intro a ha
 refine sapp (C := (([] : List UInt8)).map e8) (D := (b).map e8) ha rfl rfl Tryz.underlying22 rfl rfl rfl rfl (World.ownsRow_nil w5 w0.heap.size 5 1) (hs.below hB) (one_e8 _) (by simp only [List.length_map]; show _ * 1 ≤ _; omega) (by simp only [List.length_map]; omega) hB.size rfl ?_
 intro a w16 v15 ha hg ho15 hnl15 hpl15
 rw [← List.map_append, List.length_map] at ho15
 rw [List.nil_append, Nat.zero_add] at ho15
 have hg : World.grownBy w5 w16 none := hg
 have hne_15_b6 : ∀ j, v15.ownBlock = some j → j ≠ b6 := fun j hj => (hpl15 j hj).elim (fun h => by simp [Value.ownBlock] at h) (fun h => by have := lt_of_block hb6; omega)
 replace hB := keepB0 hg hB
 replace hb6 := keepO0 hg hb6
 refine s1 ha rfl (av rfl) ?_; intro a ha
 refine k14 _ _ ?_
 refine qr fun K17 k18 => ?_
 refine s2 ha rfl (mv rfl) (mv rfl) ?_; intro a ha
 refine sbuildS ha [(0, e8 s)] (([s] : List UInt8).map e8) rfl Tryz.runUnderlying22 Tryz.sizeOf5 Tryz.zeroValue5 rfl rfl rfl rfl rfl ?_
 intro a w19 b20 ha hg hb20 hge20 hlt20
 have hz20 := Nat.le_trans hB.size hge20
 have hne_ho15_b20 : ∀ j, Value.ownBlock v15 = some j → j ≠ b20 := fun j hj => by have := (ho15.lt j hj).2; omega
 have hq6_20 := bl hb6 hge20
 replace hB := keepB0 hg hB
 replace hb6 := keepO0 hg hb6
 replace ho15 := keepW0 hg ho15
 refine sapp (C := (b).map e8) (D := (([s] : List UInt8)).map e8) ha rfl rfl Tryz.underlying22 rfl rfl rfl rfl ho15 (Sl.ofBlockM hb20 (by rw [show ([s] : List UInt8).length = 1 from rfl]) (by omega)) (one_e8 _) (by simp only [List.length_map, show ([s] : List UInt8).length = 1 from rfl]; show _ * 1 ≤ _; omega) (by simp only [List.length_map, show ([s] : List UInt8).length = 1 from rfl]; omega) hB.size rfl ?_
 intro a w22 v21 ha hg ho21 hnl21 hpl21
 rw [← List.map_append, List.length_map, show ([s] : List UInt8).length = 1 from rfl] at ho21
 rw [List.length_map, show ([s] : List UInt8).length = 1 from rfl] at hnl21
 have hne_21_b6 : ∀ j, v21.ownBlock = some j → j ≠ b6 := fun j hj => (hpl21 j hj).elim (fun h => hne_15_b6 j h) (fun h => by have := lt_of_block hb6; omega)
 have hne_21_b20 : ∀ j, v21.ownBlock = some j → j ≠ b20 := fun j hj => (hpl21 j hj).elim (fun h => hne_ho15_b20 j h) (fun h => by have := lt_of_block hb20; omega)
 replace hB := keepBR hg (own_row ho15) hB
 replace hb6 := keepOR hg (ne_of_ap hne_15_b6) hb6
 replace hb20 := keepOR hg (ne_of_ap hne_ho15_b20) hb20
 refine s1 ha rfl (av rfl) ?_; intro a ha
 refine k18 _ _ ?_
 refine wp_seq_k fun K23 k24 => ?_
 refine wp_block ?_
 refine loopG (fun (j : Nat) a w => ∃ vp : Value, (j ≤ (padN (b.length + 1) r)) ∧ (∀ j, vp.ownBlock = some j → j ≠ b6) ∧ Has 79 [(0, en r), (7, .slice (some ⟨b6, 0, none⟩) 25 25), (8, vp)] a ∧ Below w0.heap.size w0 w ∧ w.heap[b6]? = some (.cells ((List.replicate 25 (0 : UInt64)).map e64).toArray 98 (0, 0)) ∧ w.ownsRow w0.heap.size 5 1 vp ((b ++ [s]) ++ List.replicate j (0 : UInt8)).length (((b ++ [s]) ++ List.replicate j (0 : UInt8)).map e8)) (fun j => (padN (b.length + 1) r) - j) 0 ⟨v21, (by omega), hne_21_b6, ha.to [0, 7, 8] rfl, hB, hb6, (own_castl (own_len ho21) (by rw [List.replicate_zero, List.append_nil]))⟩ ?_
 clear ha a hB hb6 ho21
 intro j a w25 ⟨vp, hkj, hnb_vp_b6, ha, hB, hb6, hovp⟩
 have hpad := padN_iff (b.length + 1) r j hr1 hkj
 have hpn : padN (b.length + 1) r < r := Nat.mod_lt _ (by omega)
 refine wp_seq_k fun K26 k27 => ?_
 refine qr fun K28 k29 => ?_
 refine s5 ha rfl (mv rfl) (fun _ ha => v_of (r_lenS ha Tryz.runUnderlying22 (Sl.ofOwns hovp) rfl (by rw [List.length_map])) (congrArg en (pre_len b s j : ((b ++ [s]) ++ List.replicate j (0 : UInt8)).length = b.length + 1 + j))) (mv rfl) (fun _ ha => rn_rem ha (b.length + 1 + j) r rfl rfl (by omega)) (fun _ ha => r_neq ha (((b.length + 1 + j) % r : Nat) : Int) 0 (decide ((b.length + 1 + j) % r ≠ 0)) rfl rfl (decide_eq_decide.2 (by omega))) ?_; intro a ha
 refine k29 _ _ ?_
 refine cond_if ha rfl (fun hc30 => ?_) (fun hc30 => ?_)
 ·skip
  replace hc30 := of_decide_eq_true hc30
  refine wp_skip ?_
  refine k27 _ _ ?_
  refine wp_block ?_
  refine region ?_
  refine s1 ha rfl (mv rfl) ?_; intro a ha
  refine sbuildS ha [(0, .int .u8 0)] (([(0 : UInt8)] : List UInt8).map e8) rfl Tryz.runUnderlying22 Tryz.sizeOf5 Tryz.zeroValue5 rfl rfl rfl rfl rfl ?_
  intro a w31 b32 ha hg hb32 hge32 hlt32
  have hz32 := Nat.le_trans hB.size hge32
  have hne_hovp_b32 : ∀ j, Value.ownBlock vp = some j → j ≠ b32 := fun j hj => by have := (hovp.lt j hj).2; omega
  have hq6_32 := bl hb6 hge32
  replace hB := keepB0 hg hB
  replace hb6 := keepO0 hg hb6
  replace hovp := keepW0 hg hovp
  refine sapp (C := (((b ++ [s]) ++ List.replicate j (0 : UInt8))).map e8) (D := (([(0 : UInt8)] : List UInt8)).map e8) ha rfl rfl Tryz.underlying22 rfl rfl rfl rfl hovp (Sl.ofBlockM hb32 (by rw [show ([(0 : UInt8)] : List UInt8).length = 1 from rfl]) (by omega)) (one_e8 _) (by simp only [List.length_map, List.length_cons, List.length_nil]; show _ * 1 ≤ _; have := pre_len b s j; omega) (by simp only [List.length_map, List.length_cons, List.length_nil]; have := pre_len b s j; omega) hB.size rfl ?_
  intro a w34 v33 ha hg ho33 hnl33 hpl33
  rw [← List.map_append, List.length_map, show ([(0 : UInt8)] : List UInt8).length = 1 from rfl] at ho33
  rw [List.length_map, show ([(0 : UInt8)] : List UInt8).length = 1 from rfl] at hnl33
  have hne_33_b6 : ∀ j, v33.ownBlock = some j → j ≠ b6 := fun j hj => (hpl33 j hj).elim (fun h => hnb_vp_b6 j h) (fun h => by have := lt_of_block hb6; omega)
  have hne_33_b32 : ∀ j, v33.ownBlock = some j → j ≠ b32 := fun j hj => (hpl33 j hj).elim (fun h => hne_hovp_b32 j h) (fun h => by have := lt_of_block hb32; omega)
  replace hB := keepBR hg (own_row hovp) hB
  replace hb6 := keepOR hg (ne_of_ap hnb_vp_b6) hb6
  replace hb32 := keepOR hg (ne_of_ap hne_hovp_b32) hb32
  replace ho33 := own_castl (own_len ho33) (pre_step b s j)
  refine s1 ha rfl (av rfl) ?_; intro a ha
  exact ⟨j + 1, by omega, v33, (by omega), hne_33_b6, ha.to [0, 7, 8] rfl, hB, hb6, (own_castl (own_len ho33) rfl)⟩
 ·skip
  replace hc30 := of_decide_eq_false hc30
  refine wp_exit ?_
  obtain rfl : j = (padN (b.length + 1) r) := by omega
  refine k24 _ _ ?_
  refine qr fun K35 k36 => ?_
  refine s6 ha rfl (mv rfl) (mv rfl) (fun _ ha => v_of (r_lenS ha Tryz.runUnderlying22 (Sl.ofOwns hovp) rfl (by rw [List.length_map])) (congrArg en (pre_len b s _ : ((b ++ [s]) ++ List.replicate (padN (b.length + 1) r) (0 : UInt8)).length = b.length + 1 + padN (b.length + 1) r))) (fun _ ha => rn_sub ha (b.length + 1 + padN (b.length + 1) r) 1 rfl rfl (by omega) (by omega)) (mv rfl) (mv rfl) ?_; intro a ha
  refine s6 ha rfl (fun _ ha => v_of (r_lenS ha Tryz.runUnderlying22 (Sl.ofOwns hovp) rfl (by rw [List.length_map])) (congrArg en (pre_len b s _ : ((b ++ [s]) ++ List.replicate (padN (b.length + 1) r) (0 : UInt8)).length = b.length + 1 + padN (b.length + 1) r))) (fun _ ha => rn_sub ha (b.length + 1 + padN (b.length + 1) r) 1 rfl rfl (by omega) (by omega)) (fun _ ha => r_indexS (i := (b.length + 1 + padN (b.length + 1) r) - 1) ha Tryz.runUnderlying22 Tryz.sizeOf5 (Sl.ofOwns hovp) (C := ((b ++ [s]) ++ List.replicate (padN (b.length + 1) r) (0 : UInt8)).map e8) rfl rfl (by rw [List.length_map, pre_len b s _]; omega)) (fun _ ha => r_loadS ha rfl Tryz.isAgg5 (Sl.ofOwns hovp) (get_map e8 ((b ++ [s]) ++ List.replicate (padN (b.length + 1) r) (0 : UInt8)) 0 ((b.length + 1 + padN (b.length + 1) r) - 1) (by rw [pre_len b s _]; omega))) (fun _ ha => rb_xor ha (((b ++ [s]) ++ List.replicate (padN (b.length + 1) r) (0 : UInt8)).getD ((b.length + 1 + padN (b.length + 1) r) - 1) 0) (128 : UInt8) rfl rfl) (fun _ ha => r_indexS (i := (b.length + 1 + padN (b.length + 1) r) - 1) ha Tryz.runUnderlying22 Tryz.sizeOf5 (Sl.ofOwns hovp) (C := ((b ++ [s]) ++ List.replicate (padN (b.length + 1) r) (0 : UInt8)).map e8) rfl rfl (by rw [List.length_map, pre_len b s _]; omega)) ?_; intro a ha
  refine sstoreO ha (v := e8 ((((b ++ [s]) ++ List.replicate (padN (b.length + 1) r) (0 : UInt8)).getD ((b.length + 1 + padN (b.length + 1) r) - 1) 0) ^^^ (128 : UInt8))) rfl rfl rfl rfl Tryz.sizeOf5 hovp (by rw [List.length_map, pre_len b s _]; omega) ?_
  intro a w37 ha hg hovp'
  rw [set_map] at hovp'
  replace hB := keepBR hg (own_row hovp) hB
  replace hb6 := keepOR hg (ne_of_ap hnb_vp_b6) hb6
  replace hovp := hovp'
  replace hovp := own_castl (own_len hovp) (show ((b ++ [s]) ++ List.replicate (padN (b.length + 1) r) (0 : UInt8)).set ((b.length + 1 + padN (b.length + 1) r) - 1) ((((b ++ [s]) ++ List.replicate (padN (b.length + 1) r) (0 : UInt8)).getD ((b.length + 1 + padN (b.length + 1) r) - 1) 0) ^^^ (128 : UInt8)) = rpad r s b from rfl)
  refine k36 _ _ ?_
  refine wp_seq_k fun K38 k39 => ?_
  refine qr fun K40 k41 => ?_
  refine s1 ha rfl (av rfl) ?_; intro a ha
  refine k41 _ _ ?_
  refine wp_block ?_
  have hnb : nbk b r * r ≤ 200000 := by rw [← rpad_nb r s b hr1, rpad_len]; have := Nat.mod_lt (r - (b.length + 1) % r) (show 0 < r by omega); unfold padN; omega
  refine loopG (fun (m : Nat) a w => ∃ va : Value, (m ≤ (nbk b r)) ∧ (∀ j, va.ownBlock = some j → w0.heap.size ≤ j) ∧ (∀ j, va.ownBlock = some j → vp.ownBlock ≠ some j) ∧ Has 79 [(0, en r), (8, vp), (9, en (m * r)), (7, va)] a ∧ Below w0.heap.size w0 w ∧ w.ownsRow w0.heap.size 5 1 vp ((rpad r s b).length) ((rpad r s b).map e8) ∧ Sl w va ((rabA r s b m).map e64)) (fun m => (nbk b r) - m) 0 ⟨.slice (some ⟨b6, 0, none⟩) 25 25, (Nat.zero_le _), (fun j hj => by cases hj; exact hz6), (fun j h1 h2 => by cases h1; exact hnb_vp_b6 _ h2 rfl), ha.to [0, 8, 9, 7] (by rw [Nat.zero_mul]; rfl), hB, hovp, (Sl.castM (l := List.replicate 25 (0 : UInt64)) (Sl.ofBlockM hb6 (by rw [List.length_replicate]) (by omega)) rfl)⟩ ?_
  clear ha a hB hb6 hovp
  intro m a w42 ⟨va, hkm, hfr_va, hds_va_hovp, ha, hB, hovp, hsva⟩
  have hm1 : m < nbk b r → m * r + r ≤ nbk b r * r := fun h => by have := Nat.mul_le_mul_right r (show m + 1 ≤ nbk b r from h); rw [Nat.succ_mul] at this; exact this
  have hm2 : nbk b r ≤ m → nbk b r * r ≤ m * r := fun h => Nat.mul_le_mul_right r h
  refine wp_seq_k fun K43 k44 => ?_
  refine qr fun K45 k46 => ?_
  refine s4 ha rfl (mv rfl) (mv rfl) (fun _ ha => v_of (r_lenS ha Tryz.runUnderlying22 (Sl.ofOwns hovp) rfl (by rw [List.length_map])) (congrArg en (rpad_nb r s b hr1 : (rpad r s b).length = nbk b r * r))) (fun _ ha => r_lss ha ((m * r : Nat) : Int) ((nbk b r * r : Nat) : Int) (decide (m * r < nbk b r * r)) rfl rfl (decide_eq_decide.2 (by omega))) ?_; intro a ha
  refine k46 _ _ ?_
  refine cond_if ha rfl (fun hc47 => ?_) (fun hc47 => ?_)
  ·skip
   replace hc47 := of_decide_eq_true hc47
   refine wp_skip ?_
   refine k44 _ _ ?_
   refine wp_seq_k fun K48 k49 => ?_
   refine wp_block ?_
   refine qr fun K50 k51 => ?_
   refine s1 ha rfl (mv rfl) ?_; intro a ha
   refine sc ha (r_call ha [va] rfl Tryz.call110) rfl rfl rfl (c_rbytes va (rabA r s b m) _ hsva (by rw [rabA_len])) ?_
   rintro e w52 ⟨u53, rfl, hBc, ho53⟩
   have hg := grown_call hBc
   have hds_ho53_hovp := nds (own_row ho53) (fun j hj => (hovp.lt j hj).2)
   replace ho53 := own_base ho53 hB.size
   replace hB := keepB0 hg hB
   replace hovp := keepW0 hg hovp
   refine ⟨_, rfl, ?_⟩; intro a ha
   refine s1 ha rfl (av rfl) ?_; intro a ha
   refine k51 _ _ ?_
   refine wp_seq_k fun K54 k55 => ?_
   refine qr fun K56 k57 => ?_
   refine s1 ha rfl (av rfl) ?_; intro a ha
   refine k57 _ _ ?_
   refine wp_block ?_
   refine loopG (fun (k : Nat) a w => ∃ vs : Value, (k ≤ r) ∧ (∀ j, vs.ownBlock = some j → vp.ownBlock ≠ some j) ∧ Has 79 [(0, en r), (8, vp), (9, en (m * r)), (10, vs), (11, en k)] a ∧ Below w0.heap.size w0 w ∧ w.ownsRow w0.heap.size 5 1 vp ((rpad r s b).length) ((rpad r s b).map e8) ∧ w.ownsRow w0.heap.size 5 1 vs (rsx (rabA r s b m) (rpad r s b) (m * r) k).length ((rsx (rabA r s b m) (rpad r s b) (m * r) k).map e8)) (fun k => r - k) 0 ⟨u53, (by omega), hds_ho53_hovp, ha.to [0, 8, 9, 10, 11] rfl, hB, hovp, (own_castl (own_len ho53) rfl)⟩ ?_
   clear ha a hB hovp ho53
   intro k a w58 ⟨vs, hkk, hds_vs_hovp, ha, hB, hovp, hovs⟩
   refine wp_seq_k fun K59 k60 => ?_
   refine qr fun K61 k62 => ?_
   refine s3 ha rfl (mv rfl) (mv rfl) (fun _ ha => r_lss ha ((k : Nat) : Int) ((r : Nat) : Int) (decide (k < r)) rfl rfl (decide_eq_decide.2 (by omega))) ?_; intro a ha
   refine k62 _ _ ?_
   refine cond_if ha rfl (fun hc63 => ?_) (fun hc63 => ?_)
   ·skip
    replace hc63 := of_decide_eq_true hc63
    refine wp_skip ?_
    refine k60 _ _ ?_
    refine wp_seq_k fun K64 k65 => ?_
    refine wp_block ?_
    refine regionD (S := fun w => Below w0.heap.size w0 w ∧ w.ownsRow w0.heap.size 5 1 vp ((rpad r s b).length) ((rpad r s b).map e8) ∧ w.ownsRow w0.heap.size 5 1 vs (rsx (rabA r s b m) (rpad r s b) (m * r) k).length ((rsx (rabA r s b m) (rpad r s b) (m * r) k).map e8) ∧ True) [14] [0, 1, 2, 3, 4, 5, 6, 7, 8, 9, 10, 11, 12, 13] [0, 1, 2, 3, 4, 5, 6, 7, 8, 9, 10, 11, 12, 13, 14] mixed (by kernel_rfl) (fun w hg => ⟨keepB0 hg hB, keepW0 hg hovp, keepW0 hg hovs, trivial⟩) ?_
    intro w66 hg
    replace hB := keepB0 hg hB
    replace hovp := keepW0 hg hovp
    replace hovs := keepW0 hg hovs
    refine c6 ha rfl (cmv rfl) (cmv rfl) (cmv rfl) (cmv rfl) (fun w ⟨_, _, hovs, _⟩ _ ha => r_indexS (i := k) ha Tryz.runUnderlying22 Tryz.sizeOf5 (Sl.ofOwns hovs) (C := (rsx (rabA r s b m) (rpad r s b) (m * r) k).map e8) rfl rfl (by rw [List.length_map, rsx_len]; omega)) (fun w ⟨_, _, hovs, _⟩ _ ha => r_loadS ha rfl Tryz.isAgg5 (Sl.ofOwns hovs) (get_map e8 (rsx (rabA r s b m) (rpad r s b) (m * r) k) 0 k (by rw [rsx_len]; omega))) ?_; intro a ha
    refine c6 ha rfl (cmv rfl) (cmv rfl) (cmv rfl) (fun w _ _ ha => rn_add ha (m * r) k rfl rfl (by omega)) (fun w ⟨_, hovp, _⟩ _ ha => r_indexS (i := (m * r) + k) ha Tryz.runUnderlying22 Tryz.sizeOf5 (Sl.ofOwns hovp) (C := (rpad r s b).map e8) rfl rfl (by rw [List.length_map, rpad_nb r s b hr1]; omega)) (fun w ⟨_, hovp, _⟩ _ ha => r_loadS ha rfl Tryz.isAgg5 (Sl.ofOwns hovp) (get_map e8 (rpad r s b) 0 ((m * r) + k) (by rw [rpad_nb r s b hr1]; omega))) ?_; intro a ha
    refine c2 ha rfl (fun w _ _ ha => rb_xor ha ((rsx (rabA r s b m) (rpad r s b) (m * r) k).getD k 0) ((rpad r s b).getD ((m * r) + k) 0) rfl rfl) (fun w ⟨_, _, hovs, _⟩ _ ha => r_indexS (i := k) ha Tryz.runUnderlying22 Tryz.sizeOf5 (Sl.ofOwns hovs) (C := (rsx (rabA r s b m) (rpad r s b) (m * r) k).map e8) rfl rfl (by rw [List.length_map, rsx_len]; omega)) ?_; intro a ha
    refine cstoreO ha rfl rfl (v := e8 (((rsx (rabA r s b m) (rpad r s b) (m * r) k).getD k 0) ^^^ ((rpad r s b).getD ((m * r) + k) 0))) rfl rfl rfl rfl Tryz.sizeOf5 hovs (by rw [List.length_map, rsx_len]; omega) rfl ?_
    intro a w67 ha hg hovs'
    rw [set_map] at hovs'
    replace hB := keepBR hg (own_row hovs) hB
    replace hovp := keepWR hg hds_vs_hovp hovp
    replace hovs := hovs'
    refine cfin (k65 _ _ ?_)
    refine region ?_
    refine s3 ha rfl (mv rfl) (fun _ ha => rn_add ha k 1 rfl rfl (by omega)) (av rfl) ?_; intro a ha
    exact ⟨k + 1, by omega, vs, (by omega), hds_vs_hovp, ha.to [0, 8, 9, 10, 11] rfl, hB, hovp, (own_castl (own_len hovs) rfl)⟩
   ·skip
    replace hc63 := of_decide_eq_false hc63
    refine wp_exit ?_
    obtain rfl : r = k := by omega
    refine k55 _ _ ?_
    refine region ?_
    refine s1 ha rfl (mv rfl) ?_; intro a ha
    refine sc ha (r_call ha [vs] rfl Tryz.call112) rfl rfl rfl (c_rstate vs (rsx (rabA r s b m) (rpad r s b) (m * r) r) _ (Sl.ofOwns hovs) (by rw [rsx_len])) ?_
    rintro e w68 ⟨u69, rfl, hBc, hs69, hd69⟩
    have hg := grown_call hBc
    have hds_hs69_hovp := nds hd69 (fun j hj => (hovp.lt j hj).2)
    replace hd69 : ∀ j, u69.ownBlock = some j → w0.heap.size ≤ j := fun j hj => Nat.le_trans hB.size (hd69 j hj)
    replace hB := keepB0 hg hB
    replace hovp := keepW0 hg hovp
    refine ⟨_, rfl, ?_⟩; intro a ha
    refine sc ha (r_call ha [u69] rfl Tryz.call111) rfl rfl rfl (c_rFast u69 (rst (rsx (rabA r s b m) (rpad r s b) (m * r) r)) _ hs69 (by rw [rst_len])) ?_
    rintro e w70 ⟨b71, rfl, hBc, hb71, hge71⟩
    have hg := grown_call hBc
    have hz71 := Nat.le_trans hB.size hge71
    have hne_hovp_b71 : ∀ j, Value.ownBlock vp = some j → j ≠ b71 := fun j hj => by have := (hovp.lt j hj).2; omega
    replace hB := keepB0 hg hB
    replace hovp := keepW0 hg hovp
    refine ⟨_, rfl, ?_⟩; intro a ha
    refine s1 ha rfl (av rfl) ?_; intro a ha
    refine k49 _ _ ?_
    refine region ?_
    refine s4 ha rfl (mv rfl) (mv rfl) (fun _ ha => v_of (rn_add ha (m * r) r rfl rfl (by omega)) (congrArg en ((Nat.succ_mul m r).symm : (m * r) + r = (m + 1) * r))) (av rfl) ?_; intro a ha
    exact ⟨m + 1, by omega, .slice (some ⟨b71, 0, none⟩) 25 25, (by omega), (fun j hj => by cases hj; exact hz71), (fun j h1 h2 => by cases h1; exact hne_hovp_b71 _ h2 rfl), ha.to [0, 8, 9, 7] rfl, hB, hovp, (Sl.castM (l := fast (rst (rsx (rabA r s b m) (rpad r s b) (m * r) r))) (Sl.ofBlockM hb71 (by rw [fast_len, rst_len]) (by omega)) rfl)⟩
  ·skip
   replace hc47 := of_decide_eq_false hc47
   refine wp_exit ?_
   obtain rfl : m = (nbk b r) := by omega
   refine k39 _ _ ?_
   refine qr fun K72 k73 => ?_
   refine s2 ha rfl (mv rfl) (av rfl) ?_; intro a ha
   refine k73 _ _ ?_
   refine wp_ret ?_
   exact ret1 ha Tryz.results77 rfl ⟨_, rfl, hB, (Sl.castM (l := rabA r s b (nbk b r)) hsva rfl), hfr_va⟩

theorem c_rout (v : Value) (p : List UInt64) (r n : Nat) (w0 : World) (hs : Sl w0 v (p.map e64)) (hl : p.length = 25) (hr : 1 ≤ r ∧ r ≤ 200) (hn : n ≤ 100000) :
    Calls Tryz.prog 76 #[v, en r, en n] w0 fun e w' => ∃ u0 : Value, e = .returned (u0) ∧ Below w0.heap.size w0 w' ∧ Sl w' u0 ((sqz p r n).map e8) ∧ (∀ j, u0.ownBlock = some j → w0.heap.size ≤ j) := by
 refine enter (args := [_, _, _]) Tryz.func76 rfl Tryz.ntmps76 rfl ?_
 intro a ha
 have hB := Below.refl w0.heap.size w0
 refine qr fun K1 k2 => ?_
 refine s1 ha rfl (av rfl) ?_; intro a ha
 refine k2 _ _ ?_
 refine qr fun K3 k4 => ?_
 refine s1 ha rfl (av rfl) ?_; intro a ha
 refine k4 _ _ ?_
 refine wp_seq_k fun K5 k6 => ?_
 refine wp_block ?_
 refine loopG (fun (g : Nat × List UInt64) a w => ∃ vo : Value, ∃ va : Value, ((roA p r g.1).length < n → g.2 = fpow p g.1) ∧ (g.2.length = 25) ∧ (g.1 ≤ n) ∧ (∀ j, va.ownBlock = some j → vo.ownBlock ≠ some j) ∧ Has 27 [(1, en r), (2, en n), (7, vo), (0, va)] a ∧ Below w0.heap.size w0 w ∧ w.ownsRow w0.heap.size 5 1 vo (roA p r g.1).length ((roA p r g.1).map e8) ∧ Sl w va ((g.2).map e64)) (fun g => n - g.1) (0, p) ⟨.slice none 0 0, v, (fun _ => rfl), hl, (Nat.zero_le _), (fun j _ hj => (nil_own j hj).elim), ha.to [1, 2, 7, 0] rfl, hB, (own_castl (l := ([] : List UInt8)) (World.ownsRow_nil _ _ _ _) rfl), (Sl.castM (l := p) (hs.below hB) rfl)⟩ ?_
 clear ha a hB
 intro g a w7 ⟨vo, va, hgq, hgl, hgk, hds_va_vo, ha, hB, hovo, hsva⟩
 have hro := roA_len p r hr.2 g.1
 have hro2 : g.1 ≤ g.1 * r := Nat.le_mul_of_pos_right g.1 (by omega)
 refine wp_seq_k fun K8 k9 => ?_
 refine qr fun K10 k11 => ?_
 refine s4 ha rfl (mv rfl) (fun _ ha => r_lenS ha Tryz.runUnderlying22 (Sl.ofOwns hovo) rfl (by rw [List.length_map])) (mv rfl) (fun _ ha => r_lss ha (((roA p r g.1).length : Nat) : Int) ((n : Nat) : Int) (decide ((roA p r g.1).length < n)) rfl rfl (decide_eq_decide.2 (by omega))) ?_; intro a ha
 refine k11 _ _ ?_
 refine cond_if ha rfl (fun hc12 => ?_) (fun hc12 => ?_)
 ·skip
  replace hc12 := of_decide_eq_true hc12
  refine wp_skip ?_
  refine k9 _ _ ?_
  refine wp_block ?_
  refine qr fun K13 k14 => ?_
  refine s2 ha rfl (mv rfl) (mv rfl) ?_; intro a ha
  refine sc ha (r_call ha [va] rfl Tryz.call110) rfl rfl rfl (c_rbytes va g.2 _ hsva (by rw [hgl])) ?_
  rintro e w15 ⟨u16, rfl, hBc, ho16⟩
  have hg := grown_call hBc
  have hds_ho16_hovo := nds (own_row ho16) (fun j hj => (hovo.lt j hj).2)
  have hds_ho16_hsva := nds (own_row ho16) (fun j hj => hsva.lt j hj)
  replace ho16 := own_base ho16 hB.size
  replace hB := keepB0 hg hB
  replace hovo := keepW0 hg hovo
  replace hsva := keepS0 hg hsva
  refine ⟨_, rfl, ?_⟩; intro a ha
  refine s2 ha rfl (mv rfl) (fun _ ha => r_resl (C := (rby g.2).map e8) ha 0 r Tryz.runUnderlying22 Tryz.sizeOf5 (Sl.ofOwns ho16) rfl rfl rfl (by omega) (by rw [List.length_map]; exact (by rw [rby_len]; omega))) ?_; intro a ha
  refine sapp (C := ((roA p r g.1)).map e8) (D := ((rby g.2).take r).map e8) ha rfl rfl Tryz.underlying22 rfl rfl rfl rfl hovo (Sl.castM (Sl.cutM (lo := 0) (hi := r) (Sl.ofOwns ho16) (by omega) (by rw [rby_len]; omega)) rfl) (one_e8 _) (by simp only [List.length_map, List.length_take]; show _ * 1 ≤ _; omega) (by simp only [List.length_map, List.length_take]; omega) hB.size rfl ?_
  intro a w18 v17 ha hg ho17 hnl17 hpl17
  rw [← List.map_append, List.length_map] at ho17
  have hds_ho17_hsva : ∀ j, v17.ownBlock = some j → va.ownBlock ≠ some j := fun j h1 h2 => (hpl17 j h1).elim (fun h => (fun j h1 h2 => hds_va_vo j h2 h1) j h h2) (fun h => by have h4 := (fun j hj => hsva.lt j hj) j h2; omega)
  have hds_ho17_ho16 : ∀ j, v17.ownBlock = some j → u16.ownBlock ≠ some j := fun j h1 h2 => (hpl17 j h1).elim (fun h => (fun j h1 h2 => hds_ho16_hovo j h2 h1) j h h2) (fun h => by have h4 := (fun j hj => (ho16.lt j hj).2) j h2; omega)
  replace hB := keepBR hg (own_row hovo) hB
  replace hsva := keepSR hg (fun j h1 h2 => hds_va_vo j h2 h1) hsva
  replace ho16 := keepWR hg (fun j h1 h2 => hds_ho16_hovo j h2 h1) ho16
  refine s1 ha rfl (av rfl) ?_; intro a ha
  refine k14 _ _ ?_
  refine qr fun K19 k20 => ?_
  refine s4 ha rfl (mv rfl) (fun _ ha => r_lenS ha Tryz.runUnderlying22 (Sl.ofOwns ho17) rfl (own_k ho17)) (mv rfl) (fun _ ha => r_lss ha ((((roA p r g.1).length) + (((rby g.2).take r).length) : Nat) : Int) ((n : Nat) : Int) (decide (((roA p r g.1).length) + (((rby g.2).take r).length) < n)) rfl rfl (decide_eq_decide.2 (by omega))) ?_; intro a ha
  refine k20 _ _ ?_
  refine cond_if ha rfl (fun hc21 => ?_) (fun hc21 => ?_)
  ·skip
   replace hc21 := of_decide_eq_true hc21
   refine region ?_
   refine s1 ha rfl (mv rfl) ?_; intro a ha
   refine sc ha (r_call ha [va] rfl Tryz.call111) rfl rfl rfl (c_rFast va g.2 _ hsva (by rw [hgl])) ?_
   rintro e w22 ⟨b23, rfl, hBc, hb23, hge23⟩
   have hg := grown_call hBc
   have hz23 := Nat.le_trans hB.size hge23
   have hne_ho17_b23 : ∀ j, Value.ownBlock v17 = some j → j ≠ b23 := fun j hj => by have := (ho17.lt j hj).2; omega
   replace hB := keepB0 hg hB
   replace ho17 := keepW0 hg ho17
   refine ⟨_, rfl, ?_⟩; intro a ha
   refine s1 ha rfl (av rfl) ?_; intro a ha
   have hq := hgq (by omega)
   have hf1 : fast g.2 = fpow p (g.1 + 1) := by rw [hq, fpow]
   have hf2 : (fast g.2).length = 25 := by rw [fast_len, hgl]
   generalize fast g.2 = f2 at *
   exact ⟨(g.1 + 1, f2), (by show n - (g.1 + 1) < n - g.1; omega), v17, .slice (some ⟨b23, 0, none⟩) 25 25, (fun _ => hf1), hf2, (by show g.1 + 1 ≤ n; omega), (fun j h1 h2 => by cases h1; exact hne_ho17_b23 _ h2 rfl), ha.to [1, 2, 7, 0] rfl, hB, (own_castl (own_len ho17) (by rw [hq]; rfl)), (Sl.castM (l := f2) (Sl.ofBlockM hb23 (by rw [hf2]) (by omega)) rfl)⟩
  ·skip
   replace hc21 := of_decide_eq_false hc21
   refine wp_skip ?_
   have hq := hgq (by omega)
   have hf1 : fast g.2 = fpow p (g.1 + 1) := by rw [hq, fpow]
   have hf2 : (fast g.2).length = 25 := by rw [fast_len, hgl]
   generalize fast g.2 = f2 at *
   exact ⟨(g.1 + 1, g.2), (by show n - (g.1 + 1) < n - g.1; omega), v17, va, (fun h => by exfalso; have h2 : (roA p r (g.1 + 1)).length < n := h; rw [roA, ← hq, List.length_append] at h2; omega), hgl, (by show g.1 + 1 ≤ n; omega), (fun j h1 h2 => hds_ho17_hsva j h2 h1), ha.to [1, 2, 7, 0] rfl, hB, (own_castl (own_len ho17) (by rw [hq]; rfl)), (Sl.castM (l := g.2) hsva rfl)⟩
 ·skip
  replace hc12 := of_decide_eq_false hc12
  refine wp_exit ?_
  refine k6 _ _ ?_
  refine qr fun K24 k25 => ?_
  refine s4 ha rfl (mv rfl) (mv rfl) (fun _ ha => r_resl (C := (roA p r g.1).map e8) ha 0 n Tryz.runUnderlying22 Tryz.sizeOf5 (Sl.ofOwns hovo) rfl rfl rfl (by omega) (by rw [List.length_map]; exact (by omega))) (av rfl) ?_; intro a ha
  refine k25 _ _ ?_
  refine wp_ret ?_
  exact ret1 ha Tryz.results76 rfl ⟨_, rfl, hB, (Sl.castM (l := ((roA p r g.1).drop 0).take (n - 0)) (Sl.cutM (lo := 0) (hi := n) (Sl.ofOwns hovo) (by omega) (by omega)) (roA_take p r n _ hr (by omega))), (fun j hj => (own_row hovo) j (own_rsl _ _ j hj))⟩

theorem c_rshake256 (v : Value) (b : List UInt8) (n : Nat) (w0 : World) (hs : Sl w0 v (b.map e8)) (hb : b.length ≤ 100000) (hn : n ≤ 100000) :
    Calls Tryz.prog 74 #[v, en n] w0 fun e w' => ∃ u0 : Value, e = .returned (u0) ∧ Below w0.heap.size w0 w' ∧ Sl w' u0 ((sqz (absR 136 31 noughts b) 136 n).map e8) ∧ (∀ j, u0.ownBlock = some j → w0.heap.size ≤ j) := by
 refine enter (args := [_, _]) Tryz.func74 rfl Tryz.ntmps74 rfl ?_
 intro a ha
 have hB := Below.refl w0.heap.size w0
 refine qr fun K1 k2 => ?_
 refine s1 ha rfl (av rfl) ?_; intro a ha
 refine k2 _ _ ?_
 refine qr fun K3 k4 => ?_
 refine s1 ha rfl (mv rfl) ?_; intro a ha
 refine sc ha (r_call ha [en 136, e8 (31 : UInt8), v] rfl Tryz.call77) rfl rfl rfl (c_rabsN 136 (31 : UInt8) v b _ (by omega) (hs.below hB) (by omega)) ?_
 rintro e w5 ⟨u6, rfl, hBc, hs6, hd6⟩
 have hg := grown_call hBc
 replace hd6 : ∀ j, u6.ownBlock = some j → w0.heap.size ≤ j := fun j hj => Nat.le_trans hB.size (hd6 j hj)
 replace hB := keepB0 hg hB
 refine ⟨_, rfl, ?_⟩; intro a ha
 refine s1 ha rfl (mv rfl) ?_; intro a ha
 refine sc ha (r_call ha [u6, en 136, en n] rfl Tryz.call76) rfl rfl rfl (c_rout u6 (rabA 136 (31 : UInt8) b (nbk b 136)) 136 n _ hs6 (by rw [rabA_len]) (by omega) (by omega)) ?_
 rintro e w7 ⟨u8, rfl, hBc, hs8, hd8⟩
 have hg := grown_call hBc
 replace hd8 : ∀ j, u8.ownBlock = some j → w0.heap.size ≤ j := fun j hj => Nat.le_trans hB.size (hd8 j hj)
 replace hB := keepB0 hg hB
 refine ⟨_, rfl, ?_⟩; intro a ha
 refine s1 ha rfl (av rfl) ?_; intro a ha
 refine k4 _ _ ?_
 refine wp_ret ?_
 exact ret1 ha Tryz.results74 rfl ⟨_, rfl, hB, (Sl.castM (l := sqz (rabA 136 (31 : UInt8) b (nbk b 136)) 136 n) hs8 (by rw [rabs_eq _ _ _ (by omega)])), hd8⟩
end Go.Proofs.YtaignhikdfpbbaaGreatDoor

/- WALKS written by gen.py (own program) out of specs. -/
namespace Go.Proofs.YtaignhikdfpbbaaGreatDoor
open Go.RowKit Go.Rx
set_option maxRecDepth 100000
set_option maxHeartbeats 4000000
set_option linter.unusedVariables false
set_option linter.unusedSimpArgs false

theorem c_bits (v : Value) (b : List UInt8) (k0 n : Nat) (w0 : World) (hs : Sl w0 v (b.map e8)) (hn : n ≤ 12) (hb : k0 + n ≤ 8 * b.length) (hat : k0 ≤ 100000) :
    Calls Tryz.prog 95 #[v, en k0, en n] w0 fun e w' => e = .returned (en (btA b k0 n)) ∧ Below w0.heap.size w0 w' := by
 refine enter (args := [_, _, _]) Tryz.func95 rfl Tryz.ntmps95 rfl ?_
 intro a ha
 have hB := Below.refl w0.heap.size w0
 refine qr fun K1 k2 => ?_
 refine s1 ha rfl (av rfl) ?_; intro a ha
 refine k2 _ _ ?_
 refine qr fun K3 k4 => ?_
 refine s1 ha rfl (av rfl) ?_; intro a ha
 refine k4 _ _ ?_
 refine wp_seq_k fun K5 k6 => ?_
 refine qr fun K7 k8 => ?_
 refine s2 ha rfl (mv rfl) (mv rfl) ?_; intro a ha
 refine k8 _ _ ?_
 refine wp_block ?_
 refine loopG (fun (i : Nat) a w => (i ≤ n) ∧ Has 35 [(0, v), (1, en k0), (10, en n), (11, en i), (7, en (btA b k0 i))] a ∧ Below w0.heap.size w0 w) (fun i => n - i) 0 ⟨(by omega), ha.to [0, 1, 10, 11, 7] rfl, hB⟩ ?_
 clear ha a hB
 intro i a w9 ⟨hki, ha, hB⟩
 refine qr fun K10 k11 => ?_
 refine s1 ha rfl (fun _ ha => r_lss ha ((i : Nat) : Int) ((n : Nat) : Int) (decide (i < n)) rfl rfl (decide_eq_decide.2 (by omega))) ?_; intro a ha
 refine k11 _ _ ?_
 refine wp_seq_k fun K12 k13 => ?_
 refine cond_if ha rfl (fun hc14 => ?_) (fun hc14 => ?_)
 ·skip
  replace hc14 := of_decide_eq_true hc14
  refine wp_skip ?_
  refine k13 _ _ ?_
  refine wp_seq_k fun K15 k16 => ?_
  refine wp_block ?_
  refine qr fun K17 k18 => ?_
  refine s2 ha rfl (mv rfl) (av rfl) ?_; intro a ha
  refine k18 _ _ ?_
  refine qr fun K19 k20 => ?_
  refine s4 ha rfl (mv rfl) (mv rfl) (fun _ ha => rn_add ha k0 i rfl rfl (by omega)) (av rfl) ?_; intro a ha
  refine k20 _ _ ?_
  refine region ?_
  refine s6 ha rfl (mv rfl) (mv rfl) (mv rfl) (fun _ ha => rn_quo ha (k0 + i) 8 rfl rfl (by omega) (by omega)) (fun _ ha => r_indexS (i := (k0 + i) / 8) ha Tryz.runUnderlying22 Tryz.sizeOf5 (hs.below hB) (C := (b).map e8) rfl rfl (by rw [List.length_map]; omega)) (fun _ ha => r_loadS ha rfl Tryz.isAgg5 (hs.below hB) (get_map e8 b 0 ((k0 + i) / 8) (by omega))) ?_; intro a ha
  refine s6 ha rfl (mv rfl) (fun _ ha => rn_rem ha (k0 + i) 8 rfl rfl (by omega)) (fun _ ha => r_conv_n_u64 ha ((k0 + i) % 8) Tryz.runUnderlying3 Tryz.runUnderlying40 rfl (by omega)) (fun _ ha => rb_shr ha (b.getD ((k0 + i) / 8) 0) ((k0 + i) % 8) rfl rfl (by omega)) (fun _ ha => rb_and ha ((b.getD ((k0 + i) / 8) 0) >>> UInt8.ofNat ((k0 + i) % 8)) (1 : UInt8) rfl rfl) (fun _ ha => v_of (r_conv_u8_i64 ha (((b.getD ((k0 + i) / 8) 0) >>> UInt8.ofNat ((k0 + i) % 8)) &&& (1 : UInt8)) Tryz.runUnderlying5 Tryz.runUnderlying3 rfl) (congrArg en (u8bit _ _ (by omega) : (((b.getD ((k0 + i) / 8) 0) >>> UInt8.ofNat ((k0 + i) % 8)) &&& (1 : UInt8)).toNat = bitN b (k0 + i)))) ?_; intro a ha
  refine s5 ha rfl (mv rfl) (fun _ ha => r_conv_n_u64 ha i Tryz.runUnderlying3 Tryz.runUnderlying40 rfl (by omega)) (fun _ ha => rn_shl ha (bitN b (k0 + i)) i rfl rfl (by omega) (by have := bit_sh b (k0 + i) i (by omega); omega)) (fun _ ha => v_of (rn_or ha (btA b k0 i) ((bitN b (k0 + i)) * 2 ^ i) rfl rfl (by have := btA_le b k0 n i hn (by omega); omega) (by have := bit_sh b (k0 + i) i (by omega); omega)) (congrArg en (btA_or b k0 i : (btA b k0 i) ||| ((bitN b (k0 + i)) * 2 ^ i) = btA b k0 (i + 1)))) (av rfl) ?_; intro a ha
  refine k16 _ _ ?_
  refine region ?_
  refine s2 ha rfl (fun _ ha => rn_add ha i 1 rfl rfl (by omega)) (mv rfl) ?_; intro a ha
  exact ⟨i + 1, by omega, (by omega), ha.to [0, 1, 10, 11, 7] rfl, hB⟩
 ·skip
  replace hc14 := of_decide_eq_false hc14
  refine wp_exit ?_
  obtain rfl : n = i := by omega
  refine k6 _ _ ?_
  refine qr fun K21 k22 => ?_
  refine s2 ha rfl (mv rfl) (av rfl) ?_; intro a ha
  refine k22 _ _ ?_
  refine wp_ret ?_
  exact ret1 ha Tryz.results95 rfl ⟨rfl, hB⟩

theorem c_ones (v : Value) (b : List UInt8) (k0 n : Nat) (w0 : World) (hs : Sl w0 v (b.map e8)) (hn : n ≤ 12) (hb : k0 + n ≤ 8 * b.length) (hat : k0 ≤ 100000) :
    Calls Tryz.prog 128 #[v, en k0, en n] w0 fun e w' => e = .returned (en (onesN b k0 n)) ∧ Below w0.heap.size w0 w' := by
 refine enter (args := [_, _, _]) Tryz.func128 rfl Tryz.ntmps128 rfl ?_
 intro a ha
 have hB := Below.refl w0.heap.size w0
 have hX0 := btA_lt b k0 n
 have hX1 : 2 ^ n ≤ 2 ^ 12 := Nat.pow_le_pow_right (by omega) hn
 refine qr fun K1 k2 => ?_
 refine s1 ha rfl (av rfl) ?_; intro a ha
 refine k2 _ _ ?_
 refine qr fun K3 k4 => ?_
 refine s1 ha rfl (av rfl) ?_; intro a ha
 refine k4 _ _ ?_
 refine wp_seq_k fun K5 k6 => ?_
 refine qr fun K7 k8 => ?_
 refine s3 ha rfl (mv rfl) (mv rfl) (mv rfl) ?_; intro a ha
 refine scp ha (r_call ha [v, en k0, en n] rfl Tryz.call95) rfl rfl rfl (c_bits v b k0 n _ (hs.below hB) (by omega) (by omega) (by omega)) ?_; intro w9 hg a ha
 replace hB := keepB0 hg hB
 refine s1 ha rfl (av rfl) ?_; intro a ha
 refine k8 _ _ ?_
 refine wp_block ?_
 refine loopG (fun (j : Nat) a w => (True) ∧ Has 22 [(8, en (shA (btA b k0 n) j)), (7, en (pcA (btA b k0 n) j))] a ∧ Below w0.heap.size w0 w) (fun j => shA (btA b k0 n) j) 0 ⟨trivial, ha.to [8, 7] rfl, hB⟩ ?_
 clear ha a hB
 intro j a w10 ⟨htr, ha, hB⟩
 have hpl := pcA_le (btA b k0 n) j
 refine wp_seq_k fun K11 k12 => ?_
 refine qr fun K13 k14 => ?_
 refine s2 ha rfl (mv rfl) (fun _ ha => r_gtr ha ((shA (btA b k0 n) j : Nat) : Int) 0 (decide (shA (btA b k0 n) j > 0)) rfl rfl (decide_eq_decide.2 (by omega))) ?_; intro a ha
 refine k14 _ _ ?_
 refine cond_if ha rfl (fun hc15 => ?_) (fun hc15 => ?_)
 ·skip
  replace hc15 := of_decide_eq_true hc15
  refine wp_skip ?_
  refine k12 _ _ ?_
  refine wp_seq_k fun K16 k17 => ?_
  refine wp_block ?_
  refine region ?_
  refine s5 ha rfl (mv rfl) (mv rfl) (fun _ ha => v_of (r_mask ha ((shA (btA b k0 n) j : Nat) : Int) 1 (by omega) (m := 1) rfl rfl rfl) (congrArg en ((by omega) : (((shA (btA b k0 n) j : Nat) : Int) % (2 ^ 1 : Nat)).toNat = shA (btA b k0 n) j % 2))) (fun _ ha => rn_add ha (pcA (btA b k0 n) j) (shA (btA b k0 n) j % 2) rfl rfl (by omega)) (av rfl) ?_; intro a ha
  refine k17 _ _ ?_
  refine region ?_
  refine s3 ha rfl (mv rfl) (fun _ ha => rn_shr ha (shA (btA b k0 n) j) 1 rfl rfl (by omega)) (av rfl) ?_; intro a ha
  exact ⟨j + 1, (by rw [shA_half]; omega), trivial, ha.to [8, 7] rfl, hB⟩
 ·skip
  replace hc15 := of_decide_eq_false hc15
  refine wp_exit ?_
  refine k6 _ _ ?_
  refine qr fun K18 k19 => ?_
  refine s2 ha rfl (mv rfl) (av rfl) ?_; intro a ha
  refine k19 _ _ ?_
  refine wp_ret ?_
  exact ret1 ha Tryz.results128 rfl ⟨(by rw [pc_eq _ _ (by omega) (by omega)]; rfl), hB⟩

theorem zero_50S1 : ∀ w, (zeroValue 50).run Tryz.prog w = .ok (.agg ((List.replicate 256 (0 : Int)).map ei).toArray) w := fun _ => by kernel_rfl
theorem c_noise1 (eta : Nat) (v : Value) (b : List UInt8) (w0 : World) (he : 1 ≤ eta ∧ eta ≤ 3) (hs : Sl w0 v (b.map e8)) (hb : b.length = 64 * eta) :
    Calls Tryz.prog 118 #[en eta, v] w0 fun e w' => e = .returned (.tuple #[.agg ((noA eta b 256).map ei).toArray, en 0]) ∧ Below w0.heap.size w0 w' := by
 refine enter (args := [_, _]) Tryz.func118 rfl Tryz.ntmps118 rfl ?_
 intro a ha
 have hB := Below.refl w0.heap.size w0
 refine qr fun K1 k2 => ?_
 refine salloc ha zero_50S1 rfl ?_
 intro a w3 b4 ha hg hb4 hge4 hlt4
 have hz4 := Nat.le_trans hB.size hge4
 replace hB := keepB0 hg hB
 refine s1 ha rfl (av rfl) ?_; intro a ha
 refine k2 _ _ ?_
 refine qr fun K5 k6 => ?_
 refine salloc ha zero_50S1 rfl ?_
 intro a w7 b8 ha hg hb8 hge8 hlt8
 have hz8 := Nat.le_trans hB.size hge8
 have hq4_8 := bl hb4 hge8
 replace hB := keepB0 hg hB
 replace hb4 := keepO0 hg hb4
 refine k6 _ _ ?_
 refine wp_seq_k fun K9 k10 => ?_
 refine qr fun K11 k12 => ?_
 refine s3 ha rfl (mv rfl) (fun _ ha => r_lss ha ((eta : Nat) : Int) 1 false rfl rfl (decide_eq_false (by omega))) (mv rfl) ?_; intro a ha
 refine svg ha (r_move ha rfl) rfl rfl rfl rfl rfl ?_; intro a ha
 refine svg ha (r_gtr ha ((eta : Nat) : Int) 3 false rfl rfl (decide_eq_false (by omega))) rfl rfl rfl rfl rfl ?_; intro a ha
 refine s2 ha rfl (fun _ ha => r_pick ha false rfl rfl) (mv rfl) ?_; intro a ha
 refine svg ha (r_move ha rfl) rfl rfl rfl rfl rfl ?_; intro a ha
 refine svg ha (r_lenS ha Tryz.runUnderlying22 (hs.below hB) rfl (by rw [List.length_map])) rfl rfl rfl rfl rfl ?_; intro a ha
 refine svg ha (r_move ha rfl) rfl rfl rfl rfl rfl ?_; intro a ha
 refine svg ha (rn_mul ha 64 eta rfl rfl (by omega)) rfl rfl rfl rfl rfl ?_; intro a ha
 refine svg ha (r_neq ha ((b.length : Nat) : Int) ((64 * eta : Nat) : Int) false rfl rfl (decide_eq_false (by omega))) rfl rfl rfl rfl rfl ?_; intro a ha
 refine s1 ha rfl (fun _ ha => r_pick ha false rfl rfl) ?_; intro a ha
 refine k12 _ _ ?_
 refine cond_f ha rfl ?_
 refine wp_skip ?_
 refine k10 _ _ ?_
 refine wp_seq_k fun K13 k14 => ?_
 refine qr fun K15 k16 => ?_
 refine s1 ha rfl (mv rfl) ?_; intro a ha
 refine k16 _ _ ?_
 refine wp_block ?_
 refine loopG (fun (i : Nat) a w => (i ≤ 256) ∧ Has 45 [(0, en eta), (1, v), (4, .pointer (some ⟨b4, 0, none⟩)), (6, .pointer (some ⟨b8, 0, none⟩)), (23, en i)] a ∧ Below w0.heap.size w0 w ∧ w.heap[b4]? = some (.cells ((List.replicate 256 (0 : Int)).map ei).toArray 50 (0, 0)) ∧ w.heap[b8]? = some (.cells ((noA eta b i).map ei).toArray 50 (0, 0))) (fun i => 256 - i) 0 ⟨(by omega), ha.to [0, 1, 4, 6, 23] rfl, hB, hb4, hb8⟩ ?_
 clear ha a hB hb4 hb8
 intro i a w17 ⟨hki, ha, hB, hb4, hb8⟩
 have hmm := Nat.mul_le_mul (show 2 * i ≤ 512 by omega) he.2
 refine qr fun K18 k19 => ?_
 refine s1 ha rfl (fun _ ha => r_lss ha ((i : Nat) : Int) 256 (decide (i < 256)) rfl rfl (decide_eq_decide.2 (by omega))) ?_; intro a ha
 refine k19 _ _ ?_
 refine wp_seq_k fun K20 k21 => ?_
 refine cond_if ha rfl (fun hc22 => ?_) (fun hc22 => ?_)
 ·skip
  replace hc22 := of_decide_eq_true hc22
  refine wp_skip ?_
  refine k21 _ _ ?_
  refine wp_seq_k fun K23 k24 => ?_
  refine wp_block ?_
  refine qr fun K25 k26 => ?_
  refine s2 ha rfl (mv rfl) (av rfl) ?_; intro a ha
  refine k26 _ _ ?_
  refine qr fun K27 k28 => ?_
  refine s5 ha rfl (mv rfl) (fun _ ha => rn_mul ha 2 i rfl rfl (by omega)) (mv rfl) (fun _ ha => rn_mul ha (2 * i) eta rfl rfl (by omega)) (av rfl) ?_; intro a ha
  refine k28 _ _ ?_
  refine region ?_
  refine s4 ha rfl (mv rfl) (mv rfl) (mv rfl) (mv rfl) ?_; intro a ha
  refine scp ha (r_call ha [v, en ((2 * i) * eta), en eta] rfl Tryz.call128) rfl rfl rfl (c_ones v b ((2 * i) * eta) eta _ (hs.below hB) (by omega) (by have := Nat.mul_le_mul_right eta (show 2 * i + 2 ≤ 512 by omega); rw [Nat.add_mul] at this; omega) (by omega)) ?_; intro w29 hg a ha
  replace hB := keepB0 hg hB
  replace hb4 := keepO0 hg hb4
  replace hb8 := keepO0 hg hb8
  refine s5 ha rfl (mv rfl) (mv rfl) (mv rfl) (fun _ ha => rn_add ha ((2 * i) * eta) eta rfl rfl (by omega)) (mv rfl) ?_; intro a ha
  refine scp ha (r_call ha [v, en (((2 * i) * eta) + eta), en eta] rfl Tryz.call128) rfl rfl rfl (c_ones v b (((2 * i) * eta) + eta) eta _ (hs.below hB) (by omega) (by have := Nat.mul_le_mul_right eta (show 2 * i + 2 ≤ 512 by omega); rw [Nat.add_mul] at this; omega) (by omega)) ?_; intro w30 hg a ha
  replace hB := keepB0 hg hB
  replace hb4 := keepO0 hg hb4
  replace hb8 := keepO0 hg hb8
  refine scp ha (r_call ha [ei ((onesN b ((2 * i) * eta) eta : Nat) : Int), ei ((onesN b (((2 * i) * eta) + eta) eta : Nat) : Int)] rfl Tryz.call86) rfl rfl rfl (c_sub ((onesN b ((2 * i) * eta) eta : Nat) : Int) ((onesN b (((2 * i) * eta) + eta) eta : Nat) : Int) _ ) ?_; intro w31 hg a ha
  replace hB := keepB0 hg hB
  replace hb4 := keepO0 hg hb4
  replace hb8 := keepO0 hg hb8
  refine s1 ha rfl (fun _ ha => r_indexArr (i := i) ha i Tryz.runUnderlying50 Tryz.sizeOf3 rfl rfl (by omega) (by omega)) ?_; intro a ha
  refine sstore ha (v := ei ((zsub ((onesN b ((2 * i) * eta) eta : Nat) : Int) ((onesN b (((2 * i) * eta) + eta) eta : Nat) : Int) : Nat) : Int)) rfl rfl rfl rfl Tryz.sizeOf3 hb8 (by rw [List.length_map, noA_len]; omega) ?_
  intro a w32 ha hg hb8'
  rw [set_map] at hb8'
  replace hb8 := hb8'
  replace hB := keepB1 hg (by omega) hB
  replace hb4 := keepO1 hg (by omega) hb4
  refine k24 _ _ ?_
  refine region ?_
  refine s2 ha rfl (fun _ ha => rn_add ha i 1 rfl rfl (by omega)) (mv rfl) ?_; intro a ha
  exact ⟨i + 1, by omega, (by omega), ha.to [0, 1, 4, 6, 23] rfl, hB, hb4, hb8⟩
 ·skip
  replace hc22 := of_decide_eq_false hc22
  refine wp_exit ?_
  obtain rfl : i = 256 := by omega
  refine k14 _ _ ?_
  refine qr fun K33 k34 => ?_
  refine s1 ha rfl (fun _ ha => r_loadR ha rfl Tryz.isAgg50 Tryz.sizeOf50 (C := (noA eta b 256).map ei) (by rw [List.length_map, noA_len]) (cells_all hb8)) ?_; intro a ha
  refine sstoreW ha rfl rfl (one_ei _) Tryz.sizeOf50 (by rw [List.length_map, noA_len]) hb4 (by rw [List.length_map, List.length_replicate]) ?_
  intro a w35 ha hg hb4'
  replace hb4 := hb4'
  replace hB := keepB1 hg (by omega) hB
  replace hb8 := keepO1 hg (by omega) hb8
  refine s1 ha rfl (av rfl) ?_; intro a ha
  refine k34 _ _ ?_
  refine wp_ret ?_
  exact retCT _ ha Tryz.results118 rfl rfl hb4 Tryz.underlying50 rfl (by rw [List.length_map, noA_len]; kernel_rfl) ⟨rfl, hB⟩

theorem c_prf1 (eta : Nat) (v : Value) (seed : List UInt8) (n : UInt8) (w0 : World) (he : 1 ≤ eta ∧ eta ≤ 3) (hs : Sl w0 v (seed.map e8)) (hk : seed.length ≤ 50000) (hG : Glob w0) :
    Calls Tryz.prog 97 #[en eta, v, e8 n] w0 fun e w' => e = .returned (.tuple #[.agg ((noA eta (prfB (eta : Int) seed n) 256).map ei).toArray, en 0]) ∧ Below w0.heap.size w0 w' := by
 refine enter (args := [_, _, _]) Tryz.func97 rfl Tryz.ntmps97 rfl ?_
 intro a ha
 have hB := Below.refl w0.heap.size w0
 refine qr fun K1 k2 => ?_
 refine salloc ha zero_50S1 rfl ?_
 intro a w3 b4 ha hg hb4 hge4 hlt4
 have hz4 := Nat.le_trans hB.size hge4
 replace hB := keepB0 hg hB
 refine s1 ha rfl (av rfl) ?_; intro a ha
 refine k2 _ _ ?_
 refine wp_seq_k fun K5 k6 => ?_
 refine qr fun K7 k8 => ?_
 refine s3 ha rfl (mv rfl) (fun _ ha => r_lss ha ((eta : Nat) : Int) 1 false rfl rfl (decide_eq_false (by omega))) (mv rfl) ?_; intro a ha
 refine svg ha (r_move ha rfl) rfl rfl rfl rfl rfl ?_; intro a ha
 refine svg ha (r_gtr ha ((eta : Nat) : Int) 3 false rfl rfl (decide_eq_false (by omega))) rfl rfl rfl rfl rfl ?_; intro a ha
 refine s1 ha rfl (fun _ ha => r_pick ha false rfl rfl) ?_; intro a ha
 refine k8 _ _ ?_
 refine cond_f ha rfl ?_
 refine wp_skip ?_
 refine k6 _ _ ?_
 refine qr fun K9 k10 => ?_
 refine s3 ha rfl (mv rfl) (mv rfl) (mv rfl) ?_; intro a ha
 refine sbuildS ha [(0, e8 n)] (([n] : List UInt8).map e8) rfl Tryz.runUnderlying22 Tryz.sizeOf5 Tryz.zeroValue5 rfl rfl rfl rfl rfl ?_
 intro a w11 b12 ha hg hb12 hge12 hlt12
 have hz12 := Nat.le_trans hB.size hge12
 have hq4_12 := bl hb4 hge12
 replace hB := keepB0 hg hB
 replace hb4 := keepO0 hg hb4
 refine sbuildS ha [(0, v), (1, .slice (some ⟨b12, 0, none⟩) 1 1)] [v, .slice (some ⟨b12, 0, none⟩) 1 1] rfl Tryz.runUnderlying96 Tryz.sizeOf22 Tryz.zeroValue22 rfl rfl rfl (fill2 (Sl.one (hs.below hB)) (Sl.one (Sl.ofBlockM hb12 (by rw [show ([n] : List UInt8).length = 1 from rfl]) (by omega)))) rfl ?_
 intro a w13 b14 ha hg hb14 hge14 hlt14
 have hz14 := Nat.le_trans hB.size hge14
 have hq4_14 := bl hb4 hge14
 have hq12_14 := bl hb12 hge14
 replace hB := keepB0 hg hB
 replace hb4 := keepO0 hg hb4
 replace hb12 := keepO0 hg hb12
 refine sc ha (r_call ha [(.slice (some ⟨b14, 0, none⟩) 2 2)] rfl Tryz.call52) rfl rfl rfl (c_join (.slice (some ⟨b14, 0, none⟩) 2 2) ([v, .slice (some ⟨b12, 0, none⟩) 1 1]) ([seed, ([n] : List UInt8)]) _ (Sl.ofBlock (D := [v, .slice (some ⟨b12, 0, none⟩) 1 1]) (C := [v, .slice (some ⟨b12, 0, none⟩) 1 1]) hb14 rfl (Nat.le_refl _)) (.cons (hs.below hB) (.cons (Sl.ofBlockM hb12 (by rw [show ([n] : List UInt8).length = 1 from rfl]) (by omega)) .nil)) (by first | (simp only [List.flatten_cons, List.flatten_nil, List.append_nil, List.length_append, List.length_cons, List.length_nil]; omega) | (rw [prf_eq, prfB_len _ _ _ (by omega)]; try omega)) (show 2 ≤ 1000 by omega)) ?_
 rintro e w15 ⟨u16, rfl, hBc, hs16, hd16⟩
 have hg := grown_call hBc
 have hnb_hs16_b4 := nbn hd16 hb4
 replace hd16 : ∀ j, u16.ownBlock = some j → w0.heap.size ≤ j := fun j hj => Nat.le_trans hB.size (hd16 j hj)
 replace hB := keepB0 hg hB
 replace hb4 := keepO0 hg hb4
 refine ⟨_, rfl, ?_⟩; intro a ha
 refine sc ha (r_call ha [u16] rfl Tryz.call71) rfl rfl rfl (c_shake256 u16 (([seed, ([n] : List UInt8)]).flatten) _ hs16 (glob_keep hG hB)) ?_
 rintro e w17 ⟨b18, u18, rfl, hBc, hb18, hge18, hs18, hd18, hnx18⟩
 have hg := grown_call hBc
 have hnb_hs18_b4 := nbn hd18 hb4
 have hz18 := Nat.le_trans hB.size hge18
 have hq4_18 := bl hb4 hge18
 replace hd18 : ∀ j, u18.ownBlock = some j → w0.heap.size ≤ j := fun j hj => Nat.le_trans hB.size (hd18 j hj)
 replace hB := keepB0 hg hB
 replace hb4 := keepO0 hg hb4
 refine ⟨_, rfl, ?_⟩; intro a ha
 refine s2 ha rfl (mv rfl) (fun _ ha => rn_mul ha 64 eta rfl rfl (by omega)) ?_; intro a ha
 refine sc ha (r_call ha [.pointer (some ⟨b18, 0, none⟩), ei ((64 * eta : Nat) : Int)] rfl Tryz.call72) rfl rfl rfl (c_read b18 (absR 136 31 noughts (([seed, ([n] : List UInt8)]).flatten)) 136 u18 (tk (absR 136 31 noughts (([seed, ([n] : List UInt8)]).flatten)) 136) ((64 * eta : Nat) : Int) _ hb18 (by rw [absR_len]) hs18 hnx18 (by omega) (by rw [tk_len _ _ (by omega)]; omega) (by omega) (fun _ hg => glob_keep hG (keepB1 hg (hz18) hB))) ?_
 rintro e w19 ⟨u20, v20, rfl, hg, hb18', hsv20, hov20, ho20, hds_ho20_hsv20⟩
 have hnb_ho20_b4 := nbn (own_row ho20) hb4
 have hnb_ho20_b18 := nbn (own_row ho20) hb18
 have hds_ho20_hs18 := nds (own_row ho20) (fun j hj => hs18.lt j hj)
 have hnb_hsv20_b4 : ∀ j, v20.ownBlock = some j → j ≠ b4 := fun j hj => (hov20 j hj).elim (fun h => hnb_hs18_b4 j h) (fun h => by have := lt_of_block hb4; omega)
 have hnb_hsv20_b18 : ∀ j, v20.ownBlock = some j → j ≠ b18 := fun j hj => (hov20 j hj).elim (fun h => hnx18 j h) (fun h => by have := lt_of_block hb18; omega)
 have hdv20 : ∀ j, v20.ownBlock = some j → w0.heap.size ≤ j := fun j hj => (hov20 j hj).elim (fun h => hd18 j h) (fun h => Nat.le_trans hB.size h)
 replace ho20 := own_base ho20 hB.size
 replace hb18 := hb18'
 replace hB := keepB1 hg (by omega) hB
 replace hb4 := keepO1 hg (by omega) hb4
 refine ⟨_, rfl, ?_⟩; intro a ha
 refine scp ha (r_call ha [en eta, u20] rfl Tryz.call118) rfl rfl rfl (c_noise1 eta u20 ((xrun 136 (((64 * eta : Nat) : Int) : Int).toNat (absR 136 31 noughts (([seed, ([n] : List UInt8)]).flatten), tk (absR 136 31 noughts (([seed, ([n] : List UInt8)]).flatten)) 136, [])).2.2) _ (by omega) (Sl.ofOwns ho20) (by first | (simp only [List.flatten_cons, List.flatten_nil, List.append_nil, List.length_append, List.length_cons, List.length_nil]; omega) | (rw [prf_eq, prfB_len _ _ _ (by omega)]; try omega))) ?_; intro w21 hg a ha
 replace hB := keepB0 hg hB
 replace hb4 := keepO0 hg hb4
 refine s2 ha rfl (fun _ ha => r_extract ha (vs := #[.agg ((noA eta ((xrun 136 (((64 * eta : Nat) : Int) : Int).toNat (absR 136 31 noughts (([seed, ([n] : List UInt8)]).flatten), tk (absR 136 31 noughts (([seed, ([n] : List UInt8)]).flatten)) 136, [])).2.2) 256).map ei).toArray, en 0]) rfl rfl) (fun _ ha => r_extract ha (vs := #[.agg ((noA eta ((xrun 136 (((64 * eta : Nat) : Int) : Int).toNat (absR 136 31 noughts (([seed, ([n] : List UInt8)]).flatten), tk (absR 136 31 noughts (([seed, ([n] : List UInt8)]).flatten)) 136, [])).2.2) 256).map ei).toArray, en 0]) rfl rfl) ?_; intro a ha
 refine sstoreW ha rfl rfl (one_ei _) Tryz.sizeOf50 (by rw [List.length_map, noA_len]) hb4 (by rw [List.length_map, List.length_replicate]) ?_
 intro a w22 ha hg hb4'
 replace hb4 := hb4'
 replace hB := keepB1 hg (by omega) hB
 refine s1 ha rfl (av rfl) ?_; intro a ha
 refine k10 _ _ ?_
 refine wp_ret ?_
 exact retCT _ ha Tryz.results97 rfl rfl hb4 Tryz.underlying50 rfl (by rw [List.length_map, noA_len]; kernel_rfl) ⟨(by rw [prf_eq]; first | rfl | trace_state), hB⟩

theorem c_unpack1 (d : Nat) (v : Value) (b : List UInt8) (w0 : World) (hd : 1 ≤ d ∧ d ≤ 12) (hs : Sl w0 v (b.map e8)) (hb : b.length = 32 * d) :
    Calls Tryz.prog 45 #[en d, v] w0 fun e w' => e = .returned (.tuple #[.agg ((unA d b 256).map ei).toArray, en 0]) ∧ Below w0.heap.size w0 w' := by
 refine enter (args := [_, _]) Tryz.func45 rfl Tryz.ntmps45 rfl ?_
 intro a ha
 have hB := Below.refl w0.heap.size w0
 refine qr fun K1 k2 => ?_
 refine salloc ha zero_50S1 rfl ?_
 intro a w3 b4 ha hg hb4 hge4 hlt4
 have hz4 := Nat.le_trans hB.size hge4
 replace hB := keepB0 hg hB
 refine s1 ha rfl (av rfl) ?_; intro a ha
 refine k2 _ _ ?_
 refine qr fun K5 k6 => ?_
 refine salloc ha zero_50S1 rfl ?_
 intro a w7 b8 ha hg hb8 hge8 hlt8
 have hz8 := Nat.le_trans hB.size hge8
 have hq4_8 := bl hb4 hge8
 replace hB := keepB0 hg hB
 replace hb4 := keepO0 hg hb4
 refine k6 _ _ ?_
 refine wp_seq_k fun K9 k10 => ?_
 refine qr fun K11 k12 => ?_
 refine s3 ha rfl (mv rfl) (fun _ ha => r_lss ha ((d : Nat) : Int) 1 false rfl rfl (decide_eq_false (by omega))) (mv rfl) ?_; intro a ha
 refine svg ha (r_move ha rfl) rfl rfl rfl rfl rfl ?_; intro a ha
 refine svg ha (r_gtr ha ((d : Nat) : Int) 12 false rfl rfl (decide_eq_false (by omega))) rfl rfl rfl rfl rfl ?_; intro a ha
 refine s2 ha rfl (fun _ ha => r_pick ha false rfl rfl) (mv rfl) ?_; intro a ha
 refine svg ha (r_move ha rfl) rfl rfl rfl rfl rfl ?_; intro a ha
 refine svg ha (r_lenS ha Tryz.runUnderlying22 (hs.below hB) rfl (by rw [List.length_map])) rfl rfl rfl rfl rfl ?_; intro a ha
 refine svg ha (r_move ha rfl) rfl rfl rfl rfl rfl ?_; intro a ha
 refine svg ha (rn_mul ha 32 d rfl rfl (by omega)) rfl rfl rfl rfl rfl ?_; intro a ha
 refine svg ha (r_neq ha ((b.length : Nat) : Int) ((32 * d : Nat) : Int) false rfl rfl (decide_eq_false (by omega))) rfl rfl rfl rfl rfl ?_; intro a ha
 refine s1 ha rfl (fun _ ha => r_pick ha false rfl rfl) ?_; intro a ha
 refine k12 _ _ ?_
 refine cond_f ha rfl ?_
 refine wp_skip ?_
 refine k10 _ _ ?_
 refine wp_seq_k fun K13 k14 => ?_
 refine qr fun K15 k16 => ?_
 refine s1 ha rfl (mv rfl) ?_; intro a ha
 refine k16 _ _ ?_
 refine wp_block ?_
 refine loopG (fun (i : Nat) a w => (i ≤ 256) ∧ Has 36 [(0, en d), (1, v), (4, .pointer (some ⟨b4, 0, none⟩)), (6, .pointer (some ⟨b8, 0, none⟩)), (22, en i)] a ∧ Below w0.heap.size w0 w ∧ w.heap[b4]? = some (.cells ((List.replicate 256 (0 : Int)).map ei).toArray 50 (0, 0)) ∧ w.heap[b8]? = some (.cells ((unA d b i).map ei).toArray 50 (0, 0))) (fun i => 256 - i) 0 ⟨(by omega), ha.to [0, 1, 4, 6, 22] rfl, hB, hb4, hb8⟩ ?_
 clear ha a hB hb4 hb8
 intro i a w17 ⟨hki, ha, hB, hb4, hb8⟩
 have hmm := Nat.mul_le_mul hd.2 (show i ≤ 256 by omega)
 refine qr fun K18 k19 => ?_
 refine s1 ha rfl (fun _ ha => r_lss ha ((i : Nat) : Int) 256 (decide (i < 256)) rfl rfl (decide_eq_decide.2 (by omega))) ?_; intro a ha
 refine k19 _ _ ?_
 refine wp_seq_k fun K20 k21 => ?_
 refine cond_if ha rfl (fun hc22 => ?_) (fun hc22 => ?_)
 ·skip
  replace hc22 := of_decide_eq_true hc22
  refine wp_skip ?_
  refine k21 _ _ ?_
  refine wp_seq_k fun K23 k24 => ?_
  refine wp_block ?_
  refine qr fun K25 k26 => ?_
  refine s2 ha rfl (mv rfl) (av rfl) ?_; intro a ha
  refine k26 _ _ ?_
  refine region ?_
  refine s6 ha rfl (mv rfl) (mv rfl) (mv rfl) (mv rfl) (fun _ ha => rn_mul ha d i rfl rfl (by omega)) (mv rfl) ?_; intro a ha
  refine scp ha (r_call ha [v, en (d * i), en d] rfl Tryz.call95) rfl rfl rfl (c_bits v b (d * i) d _ (hs.below hB) (by omega) (by have := Nat.mul_le_mul_left d (show i + 1 ≤ 256 by omega); rw [Nat.mul_add] at this; omega) (by omega)) ?_; intro w27 hg a ha
  replace hB := keepB0 hg hB
  replace hb4 := keepO0 hg hb4
  replace hb8 := keepO0 hg hb8
  refine scp ha (r_call ha [ei ((btA b (d * i) d : Nat) : Int)] rfl Tryz.call94) rfl rfl rfl (c_mod ((btA b (d * i) d : Nat) : Int) _ ) ?_; intro w28 hg a ha
  replace hB := keepB0 hg hB
  replace hb4 := keepO0 hg hb4
  replace hb8 := keepO0 hg hb8
  refine s1 ha rfl (fun _ ha => r_indexArr (i := i) ha i Tryz.runUnderlying50 Tryz.sizeOf3 rfl rfl (by omega) (by omega)) ?_; intro a ha
  refine sstore ha (v := ei ((zmod ((btA b (d * i) d : Nat) : Int) : Nat) : Int)) rfl rfl rfl rfl Tryz.sizeOf3 hb8 (by rw [List.length_map, unA_len]; omega) ?_
  intro a w29 ha hg hb8'
  rw [set_map] at hb8'
  replace hb8 := hb8'
  replace hB := keepB1 hg (by omega) hB
  replace hb4 := keepO1 hg (by omega) hb4
  refine k24 _ _ ?_
  refine region ?_
  refine s2 ha rfl (fun _ ha => rn_add ha i 1 rfl rfl (by omega)) (mv rfl) ?_; intro a ha
  exact ⟨i + 1, by omega, (by omega), ha.to [0, 1, 4, 6, 22] rfl, hB, hb4, hb8⟩
 ·skip
  replace hc22 := of_decide_eq_false hc22
  refine wp_exit ?_
  obtain rfl : i = 256 := by omega
  refine k14 _ _ ?_
  refine qr fun K30 k31 => ?_
  refine s1 ha rfl (fun _ ha => r_loadR ha rfl Tryz.isAgg50 Tryz.sizeOf50 (C := (unA d b 256).map ei) (by rw [List.length_map, unA_len]) (cells_all hb8)) ?_; intro a ha
  refine sstoreW ha rfl rfl (one_ei _) Tryz.sizeOf50 (by rw [List.length_map, unA_len]) hb4 (by rw [List.length_map, List.length_replicate]) ?_
  intro a w32 ha hg hb4'
  replace hb4 := hb4'
  replace hB := keepB1 hg (by omega) hB
  replace hb8 := keepO1 hg (by omega) hb8
  refine s1 ha rfl (av rfl) ?_; intro a ha
  refine k31 _ _ ?_
  refine wp_ret ?_
  exact retCT _ ha Tryz.results45 rfl rfl hb4 Tryz.underlying50 rfl (by rw [List.length_map, unA_len]; kernel_rfl) ⟨rfl, hB⟩

theorem c_pack1 (d : Nat) (p : List Int) (w0 : World) (hd : 1 ≤ d ∧ d ≤ 12) (hp : p.length = 256) :
    Calls Tryz.prog 54 #[en d, .agg ((p).map ei).toArray] w0 fun e w' => ∃ u0 : Value, e = .returned (u0) ∧ Below w0.heap.size w0 w' ∧ Sl w' u0 ((paA d p 256).map e8) ∧ (∀ j, u0.ownBlock = some j → w0.heap.size ≤ j) := by
 refine enter (args := [_, _]) Tryz.func54 rfl Tryz.ntmps54 rfl ?_
 intro a ha
 have hB := Below.refl w0.heap.size w0
 refine qr fun K1 k2 => ?_
 refine sbox ha rfl rfl ?_
 intro a w3 b4 ha hg hb4 hge4 hlt4
 have hz4 := Nat.le_trans hB.size hge4
 replace hB := keepB0 hg hB
 refine s1 ha rfl (av rfl) ?_; intro a ha
 refine k2 _ _ ?_
 refine wp_seq_k fun K5 k6 => ?_
 refine qr fun K7 k8 => ?_
 refine s3 ha rfl (mv rfl) (fun _ ha => r_lss ha ((d : Nat) : Int) 1 false rfl rfl (decide_eq_false (by omega))) (mv rfl) ?_; intro a ha
 refine svg ha (r_move ha rfl) rfl rfl rfl rfl rfl ?_; intro a ha
 refine svg ha (r_gtr ha ((d : Nat) : Int) 12 false rfl rfl (decide_eq_false (by omega))) rfl rfl rfl rfl rfl ?_; intro a ha
 refine s1 ha rfl (fun _ ha => r_pick ha false rfl rfl) ?_; intro a ha
 refine k8 _ _ ?_
 refine cond_f ha rfl ?_
 refine wp_skip ?_
 refine k6 _ _ ?_
 refine qr fun K9 k10 => ?_
 refine s2 ha rfl (mv rfl) (fun _ ha => rn_mul ha 32 d rfl rfl (by omega)) ?_; intro a ha
 refine smake (k := 32 * d) ha rfl rfl Tryz.underlying22 rfl rfl rfl rfl (show 1 * _ ≤ _ by omega) (by omega) rfl ?_
 intro a w11 b12 ha hg hb12 hge12 hlt12
 have hz12 := Nat.le_trans hB.size hge12
 have hq4_12 := bl hb4 hge12
 replace hB := keepB0 hg hB
 replace hb4 := keepO0 hg hb4
 rw [show (List.replicate (32 * d) (Value.int .u8 0)) = (List.replicate (32 * d) (0 : UInt8)).map e8 by rw [List.map_replicate]; rfl] at hb12
 refine s1 ha rfl (av rfl) ?_; intro a ha
 refine k10 _ _ ?_
 refine wp_seq_k fun K13 k14 => ?_
 refine qr fun K15 k16 => ?_
 refine s2 ha rfl (fun _ ha => r_loadR ha rfl Tryz.isAgg50 Tryz.sizeOf50 (C := (p).map ei) (by rw [List.length_map, hp]) (cells_all hb4)) (mv rfl) ?_; intro a ha
 refine k16 _ _ ?_
 refine wp_block ?_
 refine loopG (fun (i : Nat) a w => (i ≤ 256) ∧ Has 55 [(0, en d), (5, .slice (some ⟨b12, 0, none⟩) (32 * d) (32 * d)), (19, .agg ((p).map ei).toArray), (20, en i)] a ∧ Below w0.heap.size w0 w ∧ w.heap[b12]? = some (.cells ((paA d p i).map e8).toArray 5 (0, 0))) (fun i => 256 - i) 0 ⟨(by omega), ha.to [0, 5, 19, 20] rfl, hB, hb12⟩ ?_
 clear ha a hB hb12
 intro i a w17 ⟨hki, ha, hB, hb12⟩
 have hmm := Nat.mul_le_mul hd.2 (show i ≤ 256 by omega)
 refine qr fun K18 k19 => ?_
 refine s1 ha rfl (fun _ ha => r_lss ha ((i : Nat) : Int) 256 (decide (i < 256)) rfl rfl (decide_eq_decide.2 (by omega))) ?_; intro a ha
 refine k19 _ _ ?_
 refine wp_seq_k fun K20 k21 => ?_
 refine cond_if ha rfl (fun hc22 => ?_) (fun hc22 => ?_)
 ·skip
  replace hc22 := of_decide_eq_true hc22
  refine wp_skip ?_
  refine k21 _ _ ?_
  refine wp_seq_k fun K23 k24 => ?_
  refine wp_block ?_
  refine qr fun K25 k26 => ?_
  refine s4 ha rfl (mv rfl) (fun _ ha => r_index (C := (p).map ei) ha i rfl rfl Tryz.runUnderlying50 Tryz.sizeOf3 Tryz.isAgg3 (by omega) (get_map ei p 0 i (by rw [hp]; omega))) (av rfl) (av rfl) ?_; intro a ha
  refine k26 _ _ ?_
  refine qr fun K27 k28 => ?_
  refine s1 ha rfl (mv rfl) ?_; intro a ha
  refine scp ha (r_call ha [ei (p.getD i 0)] rfl Tryz.call94) rfl rfl rfl (c_mod (p.getD i 0) _ ) ?_; intro w29 hg a ha
  replace hB := keepB0 hg hB
  replace hb12 := keepO0 hg hb12
  refine s1 ha rfl (av rfl) ?_; intro a ha
  refine k28 _ _ ?_
  refine qr fun K30 k31 => ?_
  refine s2 ha rfl (mv rfl) (mv rfl) ?_; intro a ha
  refine k31 _ _ ?_
  refine wp_block ?_
  have hdi := Nat.mul_le_mul_left d (show i + 1 ≤ 256 by omega)
  rw [Nat.mul_add] at hdi
  refine loopG (fun (j : Nat) a w => (j ≤ d) ∧ Has 55 [(0, en d), (5, .slice (some ⟨b12, 0, none⟩) (32 * d) (32 * d)), (19, .agg ((p).map ei).toArray), (20, en i), (6, en i), (7, en (zmod (p.getD i 0))), (26, en d), (27, en j)] a ∧ Below w0.heap.size w0 w ∧ w.heap[b12]? = some (.cells ((paB (zmod (p.getD i 0)) (d * i) (paA d p i) j).map e8).toArray 5 (0, 0))) (fun j => d - j) 0 ⟨(by omega), ha.to [0, 5, 19, 20, 6, 7, 26, 27] rfl, hB, hb12⟩ ?_
  clear ha a hB hb12
  intro j a w32 ⟨hkj, ha, hB, hb12⟩
  refine qr fun K33 k34 => ?_
  refine s1 ha rfl (fun _ ha => r_lss ha ((j : Nat) : Int) ((d : Nat) : Int) (decide (j < d)) rfl rfl (decide_eq_decide.2 (by omega))) ?_; intro a ha
  refine k34 _ _ ?_
  refine wp_seq_k fun K35 k36 => ?_
  refine cond_if ha rfl (fun hc37 => ?_) (fun hc37 => ?_)
  ·skip
   replace hc37 := of_decide_eq_true hc37
   refine wp_skip ?_
   refine k36 _ _ ?_
   refine wp_seq_k fun K38 k39 => ?_
   refine wp_block ?_
   refine qr fun K40 k41 => ?_
   refine s2 ha rfl (mv rfl) (av rfl) ?_; intro a ha
   refine k41 _ _ ?_
   refine qr fun K42 k43 => ?_
   refine s6 ha rfl (mv rfl) (mv rfl) (fun _ ha => rn_mul ha d i rfl rfl (by omega)) (mv rfl) (fun _ ha => rn_add ha (d * i) j rfl rfl (by omega)) (av rfl) ?_; intro a ha
   refine k43 _ _ ?_
   refine region ?_
   refine s6 ha rfl (mv rfl) (mv rfl) (fun _ ha => rn_quo ha ((d * i) + j) 8 rfl rfl (by omega) (by omega)) (fun _ ha => r_indexB ha (((d * i) + j) / 8) Tryz.runUnderlying22 Tryz.sizeOf5 rfl rfl (by omega)) (fun _ ha => r_load ha rfl Tryz.isAgg5 (cell_of hb12 (get_map e8 (paB (zmod (p.getD i 0)) (d * i) (paA d p i) j) 0 (((d * i) + j) / 8) (by rw [paB_len, paA_len]; omega)))) (mv rfl) ?_; intro a ha
   refine s6 ha rfl (mv rfl) (fun _ ha => r_conv_n_u64 ha j Tryz.runUnderlying3 Tryz.runUnderlying40 rfl (by omega)) (fun _ ha => rn_shr ha (zmod (p.getD i 0)) j rfl rfl (by omega)) (fun _ ha => v_of (r_mask ha (((zmod (p.getD i 0)) >>> j : Nat) : Int) 1 (by omega) (m := 1) rfl rfl rfl) (congrArg en ((by rw [Nat.shiftRight_eq_div_pow]; omega) : ((((zmod (p.getD i 0)) >>> j : Nat) : Int) % (2 ^ 1 : Nat)).toNat = zmod (p.getD i 0) / 2 ^ j % 2))) (fun _ ha => r_conv_n_u8w ha (zmod (p.getD i 0) / 2 ^ j % 2) Tryz.runUnderlying3 Tryz.runUnderlying5 rfl) (mv rfl) ?_; intro a ha
   refine s5 ha rfl (fun _ ha => rn_rem ha ((d * i) + j) 8 rfl rfl (by omega)) (fun _ ha => r_conv_n_u64 ha (((d * i) + j) % 8) Tryz.runUnderlying3 Tryz.runUnderlying40 rfl (by omega)) (fun _ ha => rb_shl ha (UInt8.ofNat (zmod (p.getD i 0) / 2 ^ j % 2)) (((d * i) + j) % 8) rfl rfl (by omega)) (fun _ ha => rb_or ha ((paB (zmod (p.getD i 0)) (d * i) (paA d p i) j).getD (((d * i) + j) / 8) 0) ((UInt8.ofNat (zmod (p.getD i 0) / 2 ^ j % 2)) <<< UInt8.ofNat (((d * i) + j) % 8)) rfl rfl) (fun _ ha => r_indexB ha (((d * i) + j) / 8) Tryz.runUnderlying22 Tryz.sizeOf5 rfl rfl (by omega)) ?_; intro a ha
   refine sstore ha (v := e8 (((paB (zmod (p.getD i 0)) (d * i) (paA d p i) j).getD (((d * i) + j) / 8) 0) ||| ((UInt8.ofNat (zmod (p.getD i 0) / 2 ^ j % 2)) <<< UInt8.ofNat (((d * i) + j) % 8)))) rfl rfl rfl rfl Tryz.sizeOf5 hb12 (by rw [List.length_map, paB_len, paA_len]; omega) ?_
   intro a w44 ha hg hb12'
   rw [set_map] at hb12'
   replace hb12 := hb12'
   replace hB := keepB1 hg (by omega) hB
   refine k39 _ _ ?_
   refine region ?_
   refine s2 ha rfl (fun _ ha => rn_add ha j 1 rfl rfl (by omega)) (mv rfl) ?_; intro a ha
   exact ⟨j + 1, by omega, (by omega), ha.to [0, 5, 19, 20, 6, 7, 26, 27] rfl, hB, hb12⟩
  ·skip
   replace hc37 := of_decide_eq_false hc37
   refine wp_exit ?_
   obtain rfl : d = j := by omega
   refine k24 _ _ ?_
   refine region ?_
   refine s2 ha rfl (fun _ ha => rn_add ha i 1 rfl rfl (by omega)) (mv rfl) ?_; intro a ha
   exact ⟨i + 1, by omega, (by omega), ha.to [0, 5, 19, 20] rfl, hB, hb12⟩
 ·skip
  replace hc22 := of_decide_eq_false hc22
  refine wp_exit ?_
  obtain rfl : i = 256 := by omega
  refine k14 _ _ ?_
  refine qr fun K45 k46 => ?_
  refine s2 ha rfl (mv rfl) (av rfl) ?_; intro a ha
  refine k46 _ _ ?_
  refine wp_ret ?_
  exact ret1 ha Tryz.results54 rfl ⟨_, rfl, hB, (Sl.castM (l := paA d p 256) (Sl.ofBlockM hb12 (by rw [paA_len]) (by omega)) rfl), (fun j hj => by cases hj; exact hz12)⟩

theorem c_squeeze (d : Int) (p : List Int) (w0 : World) (hp : p.length = 256) :
    Calls Tryz.prog 51 #[ei d, .agg ((p).map ei).toArray] w0 fun e w' => e = .returned (.agg ((sqA d p 256).map ei).toArray) ∧ Below w0.heap.size w0 w' := by
 refine enter (args := [_, _]) Tryz.func51 rfl Tryz.ntmps51 rfl ?_
 intro a ha
 have hB := Below.refl w0.heap.size w0
 refine qr fun K1 k2 => ?_
 refine sbox ha rfl rfl ?_
 intro a w3 b4 ha hg hb4 hge4 hlt4
 have hz4 := Nat.le_trans hB.size hge4
 replace hB := keepB0 hg hB
 refine salloc ha zero_50S1 rfl ?_
 intro a w5 b6 ha hg hb6 hge6 hlt6
 have hz6 := Nat.le_trans hB.size hge6
 have hq4_6 := bl hb4 hge6
 replace hB := keepB0 hg hB
 replace hb4 := keepO0 hg hb4
 refine k2 _ _ ?_
 refine wp_seq_k fun K7 k8 => ?_
 refine qr fun K9 k10 => ?_
 refine s1 ha rfl (mv rfl) ?_; intro a ha
 refine k10 _ _ ?_
 refine wp_block ?_
 refine loopG (fun (i : Nat) a w => (i ≤ 256) ∧ Has 18 [(0, ei d), (3, .pointer (some ⟨b4, 0, none⟩)), (4, .pointer (some ⟨b6, 0, none⟩)), (6, en i)] a ∧ Below w0.heap.size w0 w ∧ w.heap[b4]? = some (.cells ((sqA d p i).map ei).toArray 50 (0, 0)) ∧ w.heap[b6]? = some (.cells ((List.replicate 256 (0 : Int)).map ei).toArray 50 (0, 0))) (fun i => 256 - i) 0 ⟨(by omega), ha.to [0, 3, 4, 6] rfl, hB, hb4, hb6⟩ ?_
 clear ha a hB hb4 hb6
 intro i a w11 ⟨hki, ha, hB, hb4, hb6⟩
 refine qr fun K12 k13 => ?_
 refine s1 ha rfl (fun _ ha => r_lss ha ((i : Nat) : Int) 256 (decide (i < 256)) rfl rfl (decide_eq_decide.2 (by omega))) ?_; intro a ha
 refine k13 _ _ ?_
 refine wp_seq_k fun K14 k15 => ?_
 refine cond_if ha rfl (fun hc16 => ?_) (fun hc16 => ?_)
 ·skip
  replace hc16 := of_decide_eq_true hc16
  refine wp_skip ?_
  refine k15 _ _ ?_
  refine wp_seq_k fun K17 k18 => ?_
  refine wp_block ?_
  refine qr fun K19 k20 => ?_
  refine s2 ha rfl (mv rfl) (av rfl) ?_; intro a ha
  refine k20 _ _ ?_
  refine region ?_
  refine s5 ha rfl (mv rfl) (mv rfl) (mv rfl) (fun _ ha => r_indexArr (i := i) ha i Tryz.runUnderlying50 Tryz.sizeOf3 rfl rfl (by omega) (by omega)) (fun _ ha => r_load ha rfl Tryz.isAgg3 (cell_of hb4 (get_map ei (sqA d p i) 0 i (by rw [sqA_len, hp]; omega)))) ?_; intro a ha
  refine scp ha (r_call ha [ei d, ei ((sqA d p i).getD i 0)] rfl Tryz.call99) rfl rfl rfl (c_compZ d ((sqA d p i).getD i 0) _ ) ?_; intro w21 hg a ha
  replace hB := keepB0 hg hB
  replace hb4 := keepO0 hg hb4
  replace hb6 := keepO0 hg hb6
  refine s1 ha rfl (fun _ ha => r_indexArr (i := i) ha i Tryz.runUnderlying50 Tryz.sizeOf3 rfl rfl (by omega) (by omega)) ?_; intro a ha
  refine sstore ha (v := ei ((zcompZ d ((sqA d p i).getD i 0) : Nat) : Int)) rfl rfl rfl rfl Tryz.sizeOf3 hb4 (by rw [List.length_map, sqA_len, hp]; omega) ?_
  intro a w22 ha hg hb4'
  rw [set_map] at hb4'
  replace hb4 := hb4'
  replace hB := keepB1 hg (by omega) hB
  replace hb6 := keepO1 hg (by omega) hb6
  refine k18 _ _ ?_
  refine region ?_
  refine s2 ha rfl (fun _ ha => rn_add ha i 1 rfl rfl (by omega)) (mv rfl) ?_; intro a ha
  exact ⟨i + 1, by omega, (by omega), ha.to [0, 3, 4, 6] rfl, hB, hb4, hb6⟩
 ·skip
  replace hc16 := of_decide_eq_false hc16
  refine wp_exit ?_
  obtain rfl : i = 256 := by omega
  refine k8 _ _ ?_
  refine qr fun K23 k24 => ?_
  refine s1 ha rfl (fun _ ha => r_loadR ha rfl Tryz.isAgg50 Tryz.sizeOf50 (C := (sqA d p 256).map ei) (by rw [List.length_map, sqA_len, hp]) (cells_all hb4)) ?_; intro a ha
  refine sstoreW ha rfl rfl (one_ei _) Tryz.sizeOf50 (by rw [List.length_map, sqA_len, hp]) hb6 (by rw [List.length_map, List.length_replicate]) ?_
  intro a w25 ha hg hb6'
  replace hb6 := hb6'
  replace hB := keepB1 hg (by omega) hB
  replace hb4 := keepO1 hg (by omega) hb4
  refine k24 _ _ ?_
  refine wp_ret ?_
  exact retC _ ha Tryz.results51 rfl hb6 Tryz.underlying50 rfl (by rw [List.length_map, sqA_len, hp]; kernel_rfl) ⟨rfl, hB⟩

theorem c_spread (d : Int) (p : List Int) (w0 : World) (hp : p.length = 256) :
    Calls Tryz.prog 49 #[ei d, .agg ((p).map ei).toArray] w0 fun e w' => e = .returned (.agg ((spA d p 256).map ei).toArray) ∧ Below w0.heap.size w0 w' := by
 refine enter (args := [_, _]) Tryz.func49 rfl Tryz.ntmps49 rfl ?_
 intro a ha
 have hB := Below.refl w0.heap.size w0
 refine qr fun K1 k2 => ?_
 refine sbox ha rfl rfl ?_
 intro a w3 b4 ha hg hb4 hge4 hlt4
 have hz4 := Nat.le_trans hB.size hge4
 replace hB := keepB0 hg hB
 refine salloc ha zero_50S1 rfl ?_
 intro a w5 b6 ha hg hb6 hge6 hlt6
 have hz6 := Nat.le_trans hB.size hge6
 have hq4_6 := bl hb4 hge6
 replace hB := keepB0 hg hB
 replace hb4 := keepO0 hg hb4
 refine k2 _ _ ?_
 refine wp_seq_k fun K7 k8 => ?_
 refine qr fun K9 k10 => ?_
 refine s1 ha rfl (mv rfl) ?_; intro a ha
 refine k10 _ _ ?_
 refine wp_block ?_
 refine loopG (fun (i : Nat) a w => (i ≤ 256) ∧ Has 18 [(0, ei d), (3, .pointer (some ⟨b4, 0, none⟩)), (4, .pointer (some ⟨b6, 0, none⟩)), (6, en i)] a ∧ Below w0.heap.size w0 w ∧ w.heap[b4]? = some (.cells ((spA d p i).map ei).toArray 50 (0, 0)) ∧ w.heap[b6]? = some (.cells ((List.replicate 256 (0 : Int)).map ei).toArray 50 (0, 0))) (fun i => 256 - i) 0 ⟨(by omega), ha.to [0, 3, 4, 6] rfl, hB, hb4, hb6⟩ ?_
 clear ha a hB hb4 hb6
 intro i a w11 ⟨hki, ha, hB, hb4, hb6⟩
 refine qr fun K12 k13 => ?_
 refine s1 ha rfl (fun _ ha => r_lss ha ((i : Nat) : Int) 256 (decide (i < 256)) rfl rfl (decide_eq_decide.2 (by omega))) ?_; intro a ha
 refine k13 _ _ ?_
 refine wp_seq_k fun K14 k15 => ?_
 refine cond_if ha rfl (fun hc16 => ?_) (fun hc16 => ?_)
 ·skip
  replace hc16 := of_decide_eq_true hc16
  refine wp_skip ?_
  refine k15 _ _ ?_
  refine wp_seq_k fun K17 k18 => ?_
  refine wp_block ?_
  refine qr fun K19 k20 => ?_
  refine s2 ha rfl (mv rfl) (av rfl) ?_; intro a ha
  refine k20 _ _ ?_
  refine region ?_
  refine s5 ha rfl (mv rfl) (mv rfl) (mv rfl) (fun _ ha => r_indexArr (i := i) ha i Tryz.runUnderlying50 Tryz.sizeOf3 rfl rfl (by omega) (by omega)) (fun _ ha => r_load ha rfl Tryz.isAgg3 (cell_of hb4 (get_map ei (spA d p i) 0 i (by rw [spA_len, hp]; omega)))) ?_; intro a ha
  refine scp ha (r_call ha [ei d, ei ((spA d p i).getD i 0)] rfl Tryz.call98) rfl rfl rfl (c_decZ d ((spA d p i).getD i 0) _ ) ?_; intro w21 hg a ha
  replace hB := keepB0 hg hB
  replace hb4 := keepO0 hg hb4
  replace hb6 := keepO0 hg hb6
  refine s1 ha rfl (fun _ ha => r_indexArr (i := i) ha i Tryz.runUnderlying50 Tryz.sizeOf3 rfl rfl (by omega) (by omega)) ?_; intro a ha
  refine sstore ha (v := ei ((zdecZ d ((spA d p i).getD i 0) : Nat) : Int)) rfl rfl rfl rfl Tryz.sizeOf3 hb4 (by rw [List.length_map, spA_len, hp]; omega) ?_
  intro a w22 ha hg hb4'
  rw [set_map] at hb4'
  replace hb4 := hb4'
  replace hB := keepB1 hg (by omega) hB
  replace hb6 := keepO1 hg (by omega) hb6
  refine k18 _ _ ?_
  refine region ?_
  refine s2 ha rfl (fun _ ha => rn_add ha i 1 rfl rfl (by omega)) (mv rfl) ?_; intro a ha
  exact ⟨i + 1, by omega, (by omega), ha.to [0, 3, 4, 6] rfl, hB, hb4, hb6⟩
 ·skip
  replace hc16 := of_decide_eq_false hc16
  refine wp_exit ?_
  obtain rfl : i = 256 := by omega
  refine k8 _ _ ?_
  refine qr fun K23 k24 => ?_
  refine s1 ha rfl (fun _ ha => r_loadR ha rfl Tryz.isAgg50 Tryz.sizeOf50 (C := (spA d p 256).map ei) (by rw [List.length_map, spA_len, hp]) (cells_all hb4)) ?_; intro a ha
  refine sstoreW ha rfl rfl (one_ei _) Tryz.sizeOf50 (by rw [List.length_map, spA_len, hp]) hb6 (by rw [List.length_map, List.length_replicate]) ?_
  intro a w25 ha hg hb6'
  replace hb6 := hb6'
  replace hB := keepB1 hg (by omega) hB
  replace hb4 := keepO1 hg (by omega) hb4
  refine k24 _ _ ?_
  refine wp_ret ?_
  exact retC _ ha Tryz.results49 rfl hb6 Tryz.underlying50 rfl (by rw [List.length_map, spA_len, hp]; kernel_rfl) ⟨rfl, hB⟩
end Go.Proofs.YtaignhikdfpbbaaGreatDoor

/- WALKS written by gen.py (own program) out of specs. -/
namespace Go.Proofs.YtaignhikdfpbbaaGreatDoor
open Go.RowKit Go.Rx
set_option maxRecDepth 100000
set_option maxHeartbeats 4000000
set_option linter.unusedVariables false
set_option linter.unusedSimpArgs false

theorem zero_50S2 : ∀ w, (zeroValue 50).run Tryz.prog w = .ok (.agg ((List.replicate 256 (0 : Int)).map ei).toArray) w := fun _ => by kernel_rfl
theorem zero_112S2 : ∀ w, (zeroValue 112).run Tryz.prog w = .ok (.agg ((List.replicate 2 (0 : Int)).map ei).toArray) w := fun _ => by kernel_rfl
theorem c_uniform (v : Value) (seed : List UInt8) (w0 : World) (hs : Sl w0 v (seed.map e8)) (hG : Glob w0) :
    Calls Tryz.prog 89 #[v] w0 fun e w' => e = .returned (.agg ((uni seed).map ei).toArray) ∧ Below w0.heap.size w0 w' := by
 refine enter (args := [_]) Tryz.func89 rfl Tryz.ntmps89 rfl ?_
 intro a ha
 have hB := Below.refl w0.heap.size w0
 refine qr fun K1 k2 => ?_
 refine salloc ha zero_50S2 rfl ?_
 intro a w3 b4 ha hg hb4 hge4 hlt4
 have hz4 := Nat.le_trans hB.size hge4
 replace hB := keepB0 hg hB
 refine k2 _ _ ?_
 refine qr fun K5 k6 => ?_
 refine salloc ha zero_50S2 rfl ?_
 intro a w7 b8 ha hg hb8 hge8 hlt8
 have hz8 := Nat.le_trans hB.size hge8
 have hq4_8 := bl hb4 hge8
 replace hB := keepB0 hg hB
 replace hb4 := keepO0 hg hb4
 refine k6 _ _ ?_
 refine qr fun K9 k10 => ?_
 refine s1 ha rfl (mv rfl) ?_; intro a ha
 refine sc ha (r_call ha [v] rfl Tryz.call117) rfl rfl rfl (c_shake128 v seed _ (hs.below hB) (glob_keep hG hB)) ?_
 rintro e w11 ⟨b12, u12, rfl, hBc, hb12, hge12, hs12, hd12, hnx12⟩
 have hg := grown_call hBc
 have hnb_hs12_b4 := nbn hd12 hb4
 have hnb_hs12_b8 := nbn hd12 hb8
 have hz12 := Nat.le_trans hB.size hge12
 have hq4_12 := bl hb4 hge12
 have hq8_12 := bl hb8 hge12
 replace hd12 : ∀ j, u12.ownBlock = some j → w0.heap.size ≤ j := fun j hj => Nat.le_trans hB.size (hd12 j hj)
 replace hB := keepB0 hg hB
 replace hb4 := keepO0 hg hb4
 replace hb8 := keepO0 hg hb8
 refine ⟨_, rfl, ?_⟩; intro a ha
 refine s1 ha rfl (av rfl) ?_; intro a ha
 refine k10 _ _ ?_
 refine qr fun K13 k14 => ?_
 refine s1 ha rfl (av rfl) ?_; intro a ha
 refine k14 _ _ ?_
 refine wp_seq_k fun K15 k16 => ?_
 refine qr fun K17 k18 => ?_
 refine s1 ha rfl (mv rfl) ?_; intro a ha
 refine k18 _ _ ?_
 refine wp_block ?_
 have hLA := absR_len 168 31 seed
 generalize hA : absR 168 31 noughts seed = A at *
 refine loopG (fun (g : Nat × List Int × Nat) a w => ∃ vl : Value, (g.1 ≤ 24) ∧ (g.2.1.length = 256) ∧ (g.2.2 ≤ 256) ∧ (g.2 = unU (ch A) g.1) ∧ (∀ j, vl.ownBlock = some j → w0.heap.size ≤ j) ∧ (∀ j, vl.ownBlock = some j → j ≠ b4) ∧ (∀ j, vl.ownBlock = some j → j ≠ b8) ∧ (∀ j, vl.ownBlock = some j → j ≠ b12) ∧ Has 73 [(2, .pointer (some ⟨b4, 0, none⟩)), (3, .pointer (some ⟨b8, 0, none⟩)), (4, .pointer (some ⟨b12, 0, none⟩)), (13, en g.1), (5, en g.2.2)] a ∧ Below w0.heap.size w0 w ∧ w.heap[b4]? = some (.cells ((List.replicate 256 (0 : Int)).map ei).toArray 50 (0, 0)) ∧ w.heap[b8]? = some (.cells ((g.2.1).map ei).toArray 50 (0, 0)) ∧ w.heap[b12]? = some (.cells (((xU A g.1).1).map e64 ++ [en 168, vl]).toArray 104 (0, 0)) ∧ Sl w vl (((xU A g.1).2).map e8)) (fun g => 24 - g.1) (0, zero256, 0) ⟨u12, (Nat.zero_le _), List.length_replicate, (Nat.zero_le _), (by rw [unU]), hd12, hnb_hs12_b4, hnb_hs12_b8, hnx12, ha.to [2, 3, 4, 13, 5] rfl, hB, hb4, hb8, hb12, (Sl.castM (l := tk A 168) hs12 (by rw [xU_0]))⟩ ?_
 clear ha a hB hb4 hb8 hb12 hs12
 intro g a w19 ⟨vl, hgk, hgl, hgn, hgr, hfr_vl, hnb_vl_b4, hnb_vl_b8, hnb_vl_b12, ha, hB, hb4, hb8, hb12, hsl⟩
 refine qr fun K20 k21 => ?_
 refine s1 ha rfl (fun _ ha => r_lss ha ((g.1 : Nat) : Int) 24 (decide (g.1 < 24)) rfl rfl (decide_eq_decide.2 (by omega))) ?_; intro a ha
 refine k21 _ _ ?_
 refine wp_seq_k fun K22 k23 => ?_
 refine cond_if ha rfl (fun hc24 => ?_) (fun hc24 => ?_)
 ·skip
  replace hc24 := of_decide_eq_true hc24
  refine wp_skip ?_
  refine k23 _ _ ?_
  refine wp_seq_k fun K25 k26 => ?_
  refine wp_block ?_
  refine qr fun K27 k28 => ?_
  refine s1 ha rfl (mv rfl) ?_; intro a ha
  refine sc ha (r_call ha [.pointer (some ⟨b12, 0, none⟩), ei 168] rfl Tryz.call72) rfl rfl rfl (c_read b12 ((xU A g.1).1) 168 vl ((xU A g.1).2) 168 _ hb12 (by rw [xU_len _ hLA]) hsl hnb_vl_b12 (by omega) (xU_le A g.1) (by omega) (fun _ hg => glob_keep hG (keepB1 hg (hz12) hB))) ?_
  rintro e w29 ⟨u30, v30, rfl, hg, hb12', hsv30, hov30, ho30, hds_ho30_hsv30⟩
  have hnb_ho30_b4 := nbn (own_row ho30) hb4
  have hnb_ho30_b8 := nbn (own_row ho30) hb8
  have hnb_ho30_b12 := nbn (own_row ho30) hb12
  have hds_ho30_hsl := nds (own_row ho30) (fun j hj => hsl.lt j hj)
  have hnb_hsv30_b4 : ∀ j, v30.ownBlock = some j → j ≠ b4 := fun j hj => (hov30 j hj).elim (fun h => hnb_vl_b4 j h) (fun h => by have := lt_of_block hb4; omega)
  have hnb_hsv30_b8 : ∀ j, v30.ownBlock = some j → j ≠ b8 := fun j hj => (hov30 j hj).elim (fun h => hnb_vl_b8 j h) (fun h => by have := lt_of_block hb8; omega)
  have hnb_hsv30_b12 : ∀ j, v30.ownBlock = some j → j ≠ b12 := fun j hj => (hov30 j hj).elim (fun h => hnb_vl_b12 j h) (fun h => by have := lt_of_block hb12; omega)
  have hdv30 : ∀ j, v30.ownBlock = some j → w0.heap.size ≤ j := fun j hj => (hov30 j hj).elim (fun h => hfr_vl j h) (fun h => Nat.le_trans hB.size h)
  replace ho30 := own_base ho30 hB.size
  replace hb12 := hb12'
  replace hB := keepB1 hg (by omega) hB
  replace hb4 := keepO1 hg (by omega) hb4
  replace hb8 := keepO1 hg (by omega) hb8
  refine ⟨_, rfl, ?_⟩; intro a ha
  refine s1 ha rfl (av rfl) ?_; intro a ha
  refine k28 _ _ ?_
  refine wp_seq_k fun K31 k32 => ?_
  refine qr fun K33 k34 => ?_
  refine s1 ha rfl (av rfl) ?_; intro a ha
  refine k34 _ _ ?_
  refine wp_block ?_
  have hX := xU_out A hLA g.1
  have hXl : (xrun 168 (168 : Int).toNat ((xU A g.1).1, (xU A g.1).2, [])).2.2.length = 168 := by rw [hX, ch_len]
  generalize hX : (xrun 168 (168 : Int).toNat ((xU A g.1).1, (xU A g.1).2, [])).2.2 = X at *
  refine loopG (fun (y : Nat × List Int × Nat) a w => (y.1 ≤ 56) ∧ (y.2.1.length = 256) ∧ (y.2.2 ≤ 256) ∧ (y.2 = rjB (ch A g.1) g.2 y.1) ∧ Has 73 [(2, .pointer (some ⟨b4, 0, none⟩)), (3, .pointer (some ⟨b8, 0, none⟩)), (4, .pointer (some ⟨b12, 0, none⟩)), (13, en g.1), (6, u30), (7, en (3 * y.1)), (5, en y.2.2)] a ∧ Below w0.heap.size w0 w ∧ w.heap[b4]? = some (.cells ((List.replicate 256 (0 : Int)).map ei).toArray 50 (0, 0)) ∧ w.heap[b8]? = some (.cells ((y.2.1).map ei).toArray 50 (0, 0)) ∧ w.heap[b12]? = some (.cells (((xrun 168 (168 : Int).toNat ((xU A g.1).1, (xU A g.1).2, [])).1).map e64 ++ [en 168, v30]).toArray 104 (0, 0)) ∧ Sl w v30 (((xrun 168 (168 : Int).toNat ((xU A g.1).1, (xU A g.1).2, [])).2.1).map e8) ∧ w.ownsRow w0.heap.size 5 1 u30 X.length (X.map e8)) (fun y => 56 - y.1) (0, g.2) ⟨(Nat.zero_le _), hgl, hgn, (by rw [rjB]), ha.to [2, 3, 4, 13, 6, 7, 5] rfl, hB, hb4, hb8, hb12, hsv30, ho30⟩ ?_
  clear ha a hB hb4 hb8 hb12 hsv30 ho30
  intro y a w35 ⟨hyk, hyl, hyn, hyr, ha, hB, hb4, hb8, hb12, hsv30, ho30⟩
  have hbx1 := (X.getD (3 * y.1) 0).toNat_lt
  have hbx2 := (X.getD (3 * y.1 + 1) 0 &&& 15).toNat_lt
  have hbx3 := (X.getD (3 * y.1 + 1) 0 >>> UInt8.ofNat 4).toNat_lt
  have hbx4 := (X.getD (3 * y.1 + 2) 0).toNat_lt
  refine wp_seq_k fun K36 k37 => ?_
  refine qr fun K38 k39 => ?_
  refine s4 ha rfl (mv rfl) (mv rfl) (fun _ ha => r_lenS ha Tryz.runUnderlying22 (Sl.ofOwns ho30) rfl (by rw [List.length_map])) (fun _ ha => r_lss ha ((3 * y.1 : Nat) : Int) ((X.length : Nat) : Int) (decide (3 * y.1 < X.length)) rfl rfl (decide_eq_decide.2 (by omega))) ?_; intro a ha
  refine k39 _ _ ?_
  refine cond_if ha rfl (fun hc40 => ?_) (fun hc40 => ?_)
  ·skip
   replace hc40 := of_decide_eq_true hc40
   refine wp_skip ?_
   refine k37 _ _ ?_
   refine wp_seq_k fun K41 k42 => ?_
   refine wp_block ?_
   refine wp_seq_k fun K43 k44 => ?_
   refine regionD (S := fun w => Below w0.heap.size w0 w ∧ w.heap[b4]? = some (.cells ((List.replicate 256 (0 : Int)).map ei).toArray 50 (0, 0)) ∧ w.heap[b8]? = some (.cells ((y.2.1).map ei).toArray 50 (0, 0)) ∧ w.heap[b12]? = some (.cells (((xrun 168 (168 : Int).toNat ((xU A g.1).1, (xU A g.1).2, [])).1).map e64 ++ [en 168, v30]).toArray 104 (0, 0)) ∧ Sl w v30 (((xrun 168 (168 : Int).toNat ((xU A g.1).1, (xU A g.1).2, [])).2.1).map e8) ∧ w.ownsRow w0.heap.size 5 1 u30 X.length (X.map e8) ∧ True) [31] [0, 1, 2, 3, 4, 5, 6, 7, 8, 9, 10, 11, 12, 13, 14, 15, 16, 17, 18, 19, 20, 21, 22, 23, 24, 25, 26, 27, 28, 29] [0, 1, 2, 3, 4, 5, 6, 7, 8, 9, 10, 11, 12, 13, 14, 15, 16, 17, 18, 19, 20, 21, 22, 23, 24, 25, 26, 27, 28, 29, 30, 31] mixed (by kernel_rfl) (fun w hg => ⟨keepB0 hg hB, keepO0 hg hb4, keepO0 hg hb8, keepO0 hg hb12, keepS0 hg hsv30, keepW0 hg ho30, trivial⟩) ?_
   intro w45 hg
   replace hB := keepB0 hg hB
   replace hb4 := keepO0 hg hb4
   replace hb8 := keepO0 hg hb8
   replace hb12 := keepO0 hg hb12
   replace hsv30 := keepS0 hg hsv30
   replace ho30 := keepW0 hg ho30
   refine c6 ha rfl (cmv rfl) (cmv rfl) (fun w ⟨_, _, _, _, _, ho30, _⟩ _ ha => r_indexS (i := 3 * y.1) ha Tryz.runUnderlying22 Tryz.sizeOf5 (Sl.ofOwns ho30) (C := (X).map e8) rfl rfl (by rw [List.length_map]; omega)) (fun w ⟨_, _, _, _, _, ho30, _⟩ _ ha => r_loadS ha rfl Tryz.isAgg5 (Sl.ofOwns ho30) (get_map e8 X 0 (3 * y.1) (by omega))) (fun w _ _ ha => r_conv_u8_i64 ha (X.getD (3 * y.1) 0) Tryz.runUnderlying5 Tryz.runUnderlying3 rfl) (cmv rfl) ?_; intro a ha
   refine c6 ha rfl (cmv rfl) (fun w _ _ ha => rn_add ha (3 * y.1) 1 rfl rfl (by omega)) (fun w ⟨_, _, _, _, _, ho30, _⟩ _ ha => r_indexS (i := (3 * y.1) + 1) ha Tryz.runUnderlying22 Tryz.sizeOf5 (Sl.ofOwns ho30) (C := (X).map e8) rfl rfl (by rw [List.length_map]; omega)) (fun w ⟨_, _, _, _, _, ho30, _⟩ _ ha => r_loadS ha rfl Tryz.isAgg5 (Sl.ofOwns ho30) (get_map e8 X 0 ((3 * y.1) + 1) (by omega))) (fun w _ _ ha => rb_and ha (X.getD ((3 * y.1) + 1) 0) (15 : UInt8) rfl rfl) (fun w _ _ ha => r_conv_u8_i64 ha ((X.getD ((3 * y.1) + 1) 0) &&& (15 : UInt8)) Tryz.runUnderlying5 Tryz.runUnderlying3 rfl) ?_; intro a ha
   refine c6 ha rfl (fun w _ _ ha => rn_shl ha (((X.getD ((3 * y.1) + 1) 0) &&& (15 : UInt8)).toNat) 8 rfl rfl (by omega) (by omega)) (fun w _ _ ha => rn_or ha ((X.getD (3 * y.1) 0).toNat) ((((X.getD ((3 * y.1) + 1) 0) &&& (15 : UInt8)).toNat) * 2 ^ 8) rfl rfl (by omega) (by omega)) (cmv rfl) (cmv rfl) (fun w _ _ ha => rn_add ha (3 * y.1) 1 rfl rfl (by omega)) (fun w ⟨_, _, _, _, _, ho30, _⟩ _ ha => r_indexS (i := (3 * y.1) + 1) ha Tryz.runUnderlying22 Tryz.sizeOf5 (Sl.ofOwns ho30) (C := (X).map e8) rfl rfl (by rw [List.length_map]; omega)) ?_; intro a ha
   refine c6 ha rfl (fun w ⟨_, _, _, _, _, ho30, _⟩ _ ha => r_loadS ha rfl Tryz.isAgg5 (Sl.ofOwns ho30) (get_map e8 X 0 ((3 * y.1) + 1) (by omega))) (fun w _ _ ha => rb_shr ha (X.getD ((3 * y.1) + 1) 0) 4 rfl rfl (by omega)) (fun w _ _ ha => r_conv_u8_i64 ha ((X.getD ((3 * y.1) + 1) 0) >>> UInt8.ofNat 4) Tryz.runUnderlying5 Tryz.runUnderlying3 rfl) (cmv rfl) (cmv rfl) (fun w _ _ ha => rn_add ha (3 * y.1) 2 rfl rfl (by omega)) ?_; intro a ha
   refine c5 ha rfl (fun w ⟨_, _, _, _, _, ho30, _⟩ _ ha => r_indexS (i := (3 * y.1) + 2) ha Tryz.runUnderlying22 Tryz.sizeOf5 (Sl.ofOwns ho30) (C := (X).map e8) rfl rfl (by rw [List.length_map]; omega)) (fun w ⟨_, _, _, _, _, ho30, _⟩ _ ha => r_loadS ha rfl Tryz.isAgg5 (Sl.ofOwns ho30) (get_map e8 X 0 ((3 * y.1) + 2) (by omega))) (fun w _ _ ha => r_conv_u8_i64 ha (X.getD ((3 * y.1) + 2) 0) Tryz.runUnderlying5 Tryz.runUnderlying3 rfl) (fun w _ _ ha => rn_shl ha ((X.getD ((3 * y.1) + 2) 0).toNat) 4 rfl rfl (by omega) (by omega)) (fun w _ _ ha => rn_or ha (((X.getD ((3 * y.1) + 1) 0) >>> UInt8.ofNat 4).toNat) (((X.getD ((3 * y.1) + 2) 0).toNat) * 2 ^ 4) rfl rfl (by omega) (by omega)) ?_; intro a ha
   refine cv ha rfl rfl (fun w _ => r_build (Z := (List.replicate 2 (0 : Int)).map ei) (C := (([((((X.getD (3 * y.1) 0).toNat) ||| ((((X.getD ((3 * y.1) + 1) 0) &&& (15 : UInt8)).toNat) * 2 ^ 8) : Nat) : Int), (((((X.getD ((3 * y.1) + 1) 0) >>> UInt8.ofNat 4).toNat) ||| (((X.getD ((3 * y.1) + 2) 0).toNat) * 2 ^ 4) : Nat) : Int)] : List Int)).map ei) ha _ [(0, en (((X.getD (3 * y.1) 0).toNat) ||| ((((X.getD ((3 * y.1) + 1) 0) &&& (15 : UInt8)).toNat) * 2 ^ 8))), (1, en ((((X.getD ((3 * y.1) + 1) 0) >>> UInt8.ofNat 4).toNat) ||| (((X.getD ((3 * y.1) + 2) 0).toNat) * 2 ^ 4)))] rfl zero_112S2 Tryz.runUnderlying112 Tryz.sizeOf3 rfl) rfl rfl rfl ?_; intro a ha
   refine calloc ha rfl rfl zero_112S2 rfl (fun w hg => ⟨keepB0 hg hB, keepO0 hg hb4, keepO0 hg hb8, keepO0 hg hb12, keepS0 hg hsv30, keepW0 hg ho30, trivial⟩) ?_
   intro a w46 b47 ha hg hb47 hge47 hlt47
   have hz47 := Nat.le_trans hB.size hge47
   have hne_hsv30_b47 : ∀ j, Value.ownBlock v30 = some j → j ≠ b47 := fun j hj => by have := hsv30.lt j hj; omega
   have hne_ho30_b47 : ∀ j, Value.ownBlock u30 = some j → j ≠ b47 := fun j hj => by have := (ho30.lt j hj).2; omega
   have hq4_47 := bl hb4 hge47
   have hq8_47 := bl hb8 hge47
   have hq12_47 := bl hb12 hge47
   replace hB := keepB0 hg hB
   replace hb4 := keepO0 hg hb4
   replace hb8 := keepO0 hg hb8
   replace hb12 := keepO0 hg hb12
   replace hsv30 := keepS0 hg hsv30
   replace ho30 := keepW0 hg ho30
   refine cstoreW ha rfl rfl rfl rfl (one_ei _) Tryz.sizeOf112 (by rw [List.length_map, show List.length ([((((X.getD (3 * y.1) 0).toNat) ||| ((((X.getD ((3 * y.1) + 1) 0) &&& (15 : UInt8)).toNat) * 2 ^ 8) : Nat) : Int), (((((X.getD ((3 * y.1) + 1) 0) >>> UInt8.ofNat 4).toNat) ||| (((X.getD ((3 * y.1) + 2) 0).toNat) * 2 ^ 4) : Nat) : Int)] : List Int) = 2 from rfl]) hb47 (by rw [List.length_map, List.length_replicate]) rfl ?_
   intro a w48 ha hg hb47'
   replace hb47 := hb47'
   have hb47 : w48.heap[b47]? = some (.cells ((pcd X y.1).map ei).toArray 112 (0, 0)) := hb47
   replace hB := keepB1 hg (by omega) hB
   replace hb4 := keepO1 hg (by omega) hb4
   replace hb8 := keepO1 hg (by omega) hb8
   replace hb12 := keepO1 hg (by omega) hb12
   replace hsv30 := keepS1 hg (ne_of_ap hne_hsv30_b47) hsv30
   replace ho30 := keepW1 hg (ne_of_ap hne_ho30_b47) ho30
   refine cfin (k44 _ _ ?_)
   refine qr fun K49 k50 => ?_
   refine s2 ha rfl (fun _ ha => r_loadR ha rfl Tryz.isAgg112 Tryz.sizeOf112 (C := (pcd X y.1).map ei) (by rw [List.length_map, pcd_len _ _]) (cells_all hb47)) (mv rfl) ?_; intro a ha
   refine k50 _ _ ?_
   refine wp_block ?_
   refine loopG (fun (z : Nat × List Int × Nat) a w => (z.1 ≤ 2) ∧ (z.2.1.length = 256) ∧ (z.2.2 ≤ 256) ∧ (z.2 = rjC (pcd X y.1) y.2 z.1) ∧ Has 73 [(2, .pointer (some ⟨b4, 0, none⟩)), (3, .pointer (some ⟨b8, 0, none⟩)), (4, .pointer (some ⟨b12, 0, none⟩)), (13, en g.1), (6, u30), (7, en (3 * y.1)), (23, u30), (24, en (3 * y.1)), (25, ptrOf u30 (3 * y.1)), (26, e8 (X.getD (3 * y.1) 0)), (27, en ((X.getD (3 * y.1) 0).toNat)), (28, u30), (29, en (3 * y.1)), (30, en ((3 * y.1) + 1)), (31, ptrOf u30 ((3 * y.1) + 1)), (32, e8 (X.getD ((3 * y.1) + 1) 0)), (33, e8 ((X.getD ((3 * y.1) + 1) 0) &&& (15 : UInt8))), (34, en (((X.getD ((3 * y.1) + 1) 0) &&& (15 : UInt8)).toNat)), (35, en ((((X.getD ((3 * y.1) + 1) 0) &&& (15 : UInt8)).toNat) * 2 ^ 8)), (36, en (((X.getD (3 * y.1) 0).toNat) ||| ((((X.getD ((3 * y.1) + 1) 0) &&& (15 : UInt8)).toNat) * 2 ^ 8))), (37, u30), (38, en (3 * y.1)), (39, en ((3 * y.1) + 1)), (40, ptrOf u30 ((3 * y.1) + 1)), (41, e8 (X.getD ((3 * y.1) + 1) 0)), (42, e8 ((X.getD ((3 * y.1) + 1) 0) >>> UInt8.ofNat 4)), (43, en (((X.getD ((3 * y.1) + 1) 0) >>> UInt8.ofNat 4).toNat)), (44, u30), (45, en (3 * y.1)), (46, en ((3 * y.1) + 2)), (47, ptrOf u30 ((3 * y.1) + 2)), (48, e8 (X.getD ((3 * y.1) + 2) 0)), (49, en ((X.getD ((3 * y.1) + 2) 0).toNat)), (50, en (((X.getD ((3 * y.1) + 2) 0).toNat) * 2 ^ 4)), (51, en ((((X.getD ((3 * y.1) + 1) 0) >>> UInt8.ofNat 4).toNat) ||| (((X.getD ((3 * y.1) + 2) 0).toNat) * 2 ^ 4))), (52, .agg ((([((((X.getD (3 * y.1) 0).toNat) ||| ((((X.getD ((3 * y.1) + 1) 0) &&& (15 : UInt8)).toNat) * 2 ^ 8) : Nat) : Int), (((((X.getD ((3 * y.1) + 1) 0) >>> UInt8.ofNat 4).toNat) ||| (((X.getD ((3 * y.1) + 2) 0).toNat) * 2 ^ 4) : Nat) : Int)] : List Int)).map ei).toArray), (8, .pointer (some ⟨b47, 0, none⟩)), (53, .agg ((pcd X y.1).map ei).toArray), (54, en z.1), (5, en z.2.2)] a ∧ Below w0.heap.size w0 w ∧ w.heap[b4]? = some (.cells ((List.replicate 256 (0 : Int)).map ei).toArray 50 (0, 0)) ∧ w.heap[b8]? = some (.cells ((z.2.1).map ei).toArray 50 (0, 0)) ∧ w.heap[b12]? = some (.cells (((xrun 168 (168 : Int).toNat ((xU A g.1).1, (xU A g.1).2, [])).1).map e64 ++ [en 168, v30]).toArray 104 (0, 0)) ∧ w.heap[b47]? = some (.cells ((pcd X y.1).map ei).toArray 112 (0, 0)) ∧ Sl w v30 (((xrun 168 (168 : Int).toNat ((xU A g.1).1, (xU A g.1).2, [])).2.1).map e8) ∧ w.ownsRow w0.heap.size 5 1 u30 X.length (X.map e8)) (fun z => 2 - z.1) (0, y.2) ⟨(Nat.zero_le _), hyl, hyn, (by rw [rjC]), ha.to [2, 3, 4, 13, 6, 7, 23, 24, 25, 26, 27, 28, 29, 30, 31, 32, 33, 34, 35, 36, 37, 38, 39, 40, 41, 42, 43, 44, 45, 46, 47, 48, 49, 50, 51, 52, 8, 53, 54, 5] rfl, hB, hb4, hb8, hb12, hb47, hsv30, ho30⟩ ?_
   clear ha a hB hb4 hb8 hb12 hb47 hsv30 ho30
   intro z a w51 ⟨hzk, hzl, hzn, hzr, ha, hB, hb4, hb8, hb12, hb47, hsv30, ho30⟩
   refine qr fun K52 k53 => ?_
   refine s1 ha rfl (fun _ ha => r_lss ha ((z.1 : Nat) : Int) 2 (decide (z.1 < 2)) rfl rfl (decide_eq_decide.2 (by omega))) ?_; intro a ha
   refine k53 _ _ ?_
   refine wp_seq_k fun K54 k55 => ?_
   refine cond_if ha rfl (fun hc56 => ?_) (fun hc56 => ?_)
   ·skip
    replace hc56 := of_decide_eq_true hc56
    refine wp_skip ?_
    refine k55 _ _ ?_
    refine wp_seq_k fun K57 k58 => ?_
    refine wp_block ?_
    refine qr fun K59 k60 => ?_
    refine s2 ha rfl (fun _ ha => r_index (C := (pcd X y.1).map ei) ha z.1 rfl rfl Tryz.runUnderlying112 Tryz.sizeOf3 Tryz.isAgg3 (by omega) (get_map ei (pcd X y.1) 0 z.1 (by rw [pcd_len _ _]; omega))) (av rfl) ?_; intro a ha
    refine k60 _ _ ?_
    refine qr fun K61 k62 => ?_
    refine s3 ha rfl (mv rfl) (fun _ ha => r_lss ha ((pcd X y.1).getD z.1 0) 3329 (decide ((pcd X y.1).getD z.1 0 < 3329)) rfl rfl (decide_eq_decide.2 (by omega))) (mv rfl) ?_; intro a ha
    cases hq63 : (decide ((pcd X y.1).getD z.1 0 < 3329))
    all_goals rw [hq63] at ha
    case false =>
     replace hq63 := of_decide_eq_false hq63
     refine sno ha rfl rfl rfl rfl rfl rfl ?_; intro a ha
     refine sno ha rfl rfl rfl rfl rfl rfl ?_; intro a ha
     refine s1 ha rfl (fun _ ha => r_pick ha false rfl rfl) ?_; intro a ha
     refine k62 _ _ ?_
     refine cond_f ha rfl ?_
     refine wp_skip ?_
     refine k58 _ _ ?_
     refine region ?_
     refine s2 ha rfl (fun _ ha => rn_add ha z.1 1 rfl rfl (by omega)) (mv rfl) ?_; intro a ha
     exact ⟨(z.1 + 1, z.2.1, z.2.2), (by show 2 - (z.1 + 1) < 2 - z.1; omega), (by show z.1 + 1 ≤ 2; omega), (by first | exact hzl | (show (List.set _ _ _).length = 256; rw [List.length_set]; exact hzl)), (by first | exact hzn | (show z.2.2 + 1 ≤ 256; omega)), (by rw [rjC, ← hzr, rej]; first | (rw [if_pos (by omega)]; done) | (rw [if_neg (by omega)]; done)), ha.to [2, 3, 4, 13, 6, 7, 23, 24, 25, 26, 27, 28, 29, 30, 31, 32, 33, 34, 35, 36, 37, 38, 39, 40, 41, 42, 43, 44, 45, 46, 47, 48, 49, 50, 51, 52, 8, 53, 54, 5] rfl, hB, hb4, hb8, hb12, hb47, hsv30, ho30⟩
    case true =>
     replace hq63 := of_decide_eq_true hq63
     refine svg ha (r_move ha rfl) rfl rfl rfl rfl rfl ?_; intro a ha
     refine svg ha (r_lss ha ((z.2.2 : Nat) : Int) 256 (decide (z.2.2 < 256)) rfl rfl (decide_eq_decide.2 (by omega))) rfl rfl rfl rfl rfl ?_; intro a ha
     refine s1 ha rfl (fun _ ha => r_pick ha true rfl rfl) ?_; intro a ha
     refine k62 _ _ ?_
     refine cond_if ha rfl (fun hc64 => ?_) (fun hc64 => ?_)
     ·skip
      replace hc64 := of_decide_eq_true hc64
      refine qr fun K65 k66 => ?_
      refine s3 ha rfl (mv rfl) (mv rfl) (fun _ ha => r_indexArr (i := z.2.2) ha z.2.2 Tryz.runUnderlying50 Tryz.sizeOf3 rfl rfl (by omega) (by omega)) ?_; intro a ha
      refine sstore ha (v := ei ((pcd X y.1).getD z.1 0)) rfl rfl rfl rfl Tryz.sizeOf3 hb8 (by rw [List.length_map, hzl]; omega) ?_
      intro a w67 ha hg hb8'
      rw [set_map] at hb8'
      replace hb8 := hb8'
      replace hB := keepB1 hg (by omega) hB
      replace hb4 := keepO1 hg (by omega) hb4
      replace hb12 := keepO1 hg (by omega) hb12
      replace hb47 := keepO1 hg (by omega) hb47
      replace hsv30 := keepS1 hg (ne_of_ap hnb_hsv30_b8) hsv30
      replace ho30 := keepW1 hg (ne_of_ap hnb_ho30_b8) ho30
      refine k66 _ _ ?_
      refine region ?_
      refine s3 ha rfl (mv rfl) (fun _ ha => rn_add ha z.2.2 1 rfl rfl (by omega)) (av rfl) ?_; intro a ha
      refine k58 _ _ ?_
      refine region ?_
      refine s2 ha rfl (fun _ ha => rn_add ha z.1 1 rfl rfl (by omega)) (mv rfl) ?_; intro a ha
      exact ⟨(z.1 + 1, z.2.1.set z.2.2 ((pcd X y.1).getD z.1 0), z.2.2 + 1), (by show 2 - (z.1 + 1) < 2 - z.1; omega), (by show z.1 + 1 ≤ 2; omega), (by first | exact hzl | (show (List.set _ _ _).length = 256; rw [List.length_set]; exact hzl)), (by first | exact hzn | (show z.2.2 + 1 ≤ 256; omega)), (by rw [rjC, ← hzr, rej]; first | (rw [if_pos (by omega)]; done) | (rw [if_neg (by omega)]; done)), ha.to [2, 3, 4, 13, 6, 7, 23, 24, 25, 26, 27, 28, 29, 30, 31, 32, 33, 34, 35, 36, 37, 38, 39, 40, 41, 42, 43, 44, 45, 46, 47, 48, 49, 50, 51, 52, 8, 53, 54, 5] rfl, hB, hb4, hb8, hb12, hb47, hsv30, ho30⟩
     ·skip
      replace hc64 := of_decide_eq_false hc64
      refine wp_skip ?_
      refine k58 _ _ ?_
      refine region ?_
      refine s2 ha rfl (fun _ ha => rn_add ha z.1 1 rfl rfl (by omega)) (mv rfl) ?_; intro a ha
      exact ⟨(z.1 + 1, z.2.1, z.2.2), (by show 2 - (z.1 + 1) < 2 - z.1; omega), (by show z.1 + 1 ≤ 2; omega), (by first | exact hzl | (show (List.set _ _ _).length = 256; rw [List.length_set]; exact hzl)), (by first | exact hzn | (show z.2.2 + 1 ≤ 256; omega)), (by rw [rjC, ← hzr, rej]; first | (rw [if_pos (by omega)]; done) | (rw [if_neg (by omega)]; done)), ha.to [2, 3, 4, 13, 6, 7, 23, 24, 25, 26, 27, 28, 29, 30, 31, 32, 33, 34, 35, 36, 37, 38, 39, 40, 41, 42, 43, 44, 45, 46, 47, 48, 49, 50, 51, 52, 8, 53, 54, 5] rfl, hB, hb4, hb8, hb12, hb47, hsv30, ho30⟩
   ·skip
    replace hc56 := of_decide_eq_false hc56
    refine wp_exit ?_
    have hz1 : z.1 = 2 := by omega
    refine k42 _ _ ?_
    refine region ?_
    refine s3 ha rfl (mv rfl) (fun _ ha => rn_add ha (3 * y.1) 3 rfl rfl (by omega)) (av rfl) ?_; intro a ha
    exact ⟨(y.1 + 1, z.2), (by show 56 - (y.1 + 1) < 56 - y.1; omega), (by show y.1 + 1 ≤ 56; omega), hzl, hzn, (by show z.2 = _; rw [hzr, hz1, hyr, rjB, hX]), ha.to [2, 3, 4, 13, 6, 7, 5] rfl, hB, hb4, hb8, hb12, hsv30, ho30⟩
  ·skip
   replace hc40 := of_decide_eq_false hc40
   refine wp_exit ?_
   refine k32 _ _ ?_
   refine qr fun K68 k69 => ?_
   refine s2 ha rfl (mv rfl) (fun _ ha => r_eql ha ((y.2.2 : Nat) : Int) 256 (decide (y.2.2 = 256)) rfl rfl (decide_eq_decide.2 (by omega))) ?_; intro a ha
   refine k69 _ _ ?_
   refine cond_if ha rfl (fun hc70 => ?_) (fun hc70 => ?_)
   ·skip
    replace hc70 := of_decide_eq_true hc70
    refine wp_exit ?_
    refine k16 _ _ ?_
    refine qr fun K71 k72 => ?_
    refine s1 ha rfl (fun _ ha => r_loadR ha rfl Tryz.isAgg50 Tryz.sizeOf50 (C := (y.2.1).map ei) (by rw [List.length_map, hyl]) (cells_all hb8)) ?_; intro a ha
    refine sstoreW ha rfl rfl (one_ei _) Tryz.sizeOf50 (by rw [List.length_map, hyl]) hb4 (by rw [List.length_map, List.length_replicate]) ?_
    intro a w73 ha hg hb4'
    replace hb4 := hb4'
    replace hB := keepB1 hg (by omega) hB
    replace hb8 := keepO1 hg (by omega) hb8
    refine k72 _ _ ?_
    refine wp_ret ?_
    exact retC _ ha Tryz.results89 rfl hb4 Tryz.underlying50 rfl (by rw [List.length_map, hyl]; kernel_rfl) ⟨(congrArg (fun l : List Int => Ending.returned (Value.agg (l.map ei).toArray)) (by first | exact uni_of seed A hA (g.1 + 1) (by omega) y.2 (by rw [hyr, hgr]; exact unU_end _ _ _ (.inl (by omega)) (by omega)) (.inr (by omega)) | exact uni_of seed A hA g.1 (by omega) g.2 hgr (.inl (by omega)))), hB⟩
   ·skip
    replace hc70 := of_decide_eq_false hc70
    refine wp_skip ?_
    refine k26 _ _ ?_
    refine region ?_
    refine s2 ha rfl (fun _ ha => rn_add ha g.1 1 rfl rfl (by omega)) (mv rfl) ?_; intro a ha
    exact ⟨(g.1 + 1, y.2), (by show 24 - (g.1 + 1) < 24 - g.1; omega), v30, (by show g.1 + 1 ≤ 24; omega), hyl, hyn, (by show y.2 = _; rw [hyr, hgr]; exact unU_end _ _ _ (.inl (by omega)) (by omega)), hdv30, hnb_hsv30_b4, hnb_hsv30_b8, hnb_hsv30_b12, ha.to [2, 3, 4, 13, 5] rfl, hB, hb4, hb8, (by rw [← xU_sa _ hLA]; exact hb12), (Sl.castM (l := (xrun 168 (168 : Int).toNat ((xU A g.1).1, (xU A g.1).2, [])).2.1) hsv30 (xU_sl _ hLA _))⟩
 ·skip
  replace hc24 := of_decide_eq_false hc24
  refine wp_exit ?_
  refine k16 _ _ ?_
  refine qr fun K74 k75 => ?_
  refine s1 ha rfl (fun _ ha => r_loadR ha rfl Tryz.isAgg50 Tryz.sizeOf50 (C := (g.2.1).map ei) (by rw [List.length_map, hgl]) (cells_all hb8)) ?_; intro a ha
  refine sstoreW ha rfl rfl (one_ei _) Tryz.sizeOf50 (by rw [List.length_map, hgl]) hb4 (by rw [List.length_map, List.length_replicate]) ?_
  intro a w76 ha hg hb4'
  replace hb4 := hb4'
  replace hB := keepB1 hg (by omega) hB
  replace hb8 := keepO1 hg (by omega) hb8
  refine k75 _ _ ?_
  refine wp_ret ?_
  exact retC _ ha Tryz.results89 rfl hb4 Tryz.underlying50 rfl (by rw [List.length_map, hgl]; kernel_rfl) ⟨(congrArg (fun l : List Int => Ending.returned (Value.agg (l.map ei).toArray)) (by first | exact uni_of seed A hA (g.1 + 1) (by omega) y.2 (by rw [hyr, hgr]; exact unU_end _ _ _ (.inl (by omega)) (by omega)) (.inr (by omega)) | exact uni_of seed A hA g.1 (by omega) g.2 hgr (.inl (by omega)))), hB⟩
end Go.Proofs.YtaignhikdfpbbaaGreatDoor

/- Several operations that yield values, at once, in a tree of orders. -/
namespace Go.Rx.T
open Go.RowKit Go.Rx
section
variable {P : Program} {ops : Array Oper} {Q : Exit → Act → World → Prop} {S : World → Prop} {T st : List Nat} {a : Act} {w : World} {r : Ord} {n : Nat} {env : Env}
theorem c1 {i1 : Nat} {o1 : Oper} {d1 : Nat} {v1 : Value} (ha : Has n env a) (hk : vc ops st n [i1] = some [(o1, d1)]) (r1 : ∀ w, S w → ∀ a, Has n env a → (execOp a.eval o1).run P w = .ok (.value v1) w) (k : ∀ a', Has n ((d1, v1) :: env) a' → wpT P ops Q S T st r a' w) : wpT P ops Q S T st (.op i1 r) a w := by
  obtain ⟨hi1, hc1, g1, e1, b1, hk⟩ := vc_cons hk
  exact Go.Rx.T.cv ha hi1 hc1 (fun w hS => r1 w hS _ ha) g1 e1 b1 fun a ha => k _ ha
theorem c3 {i1 i2 i3 : Nat} {o1 o2 o3 : Oper} {d1 d2 d3 : Nat} {v1 v2 v3 : Value} (ha : Has n env a) (hk : vc ops st n [i1, i2, i3] = some [(o1, d1), (o2, d2), (o3, d3)]) (r1 : ∀ w, S w → ∀ a, Has n env a → (execOp a.eval o1).run P w = .ok (.value v1) w) (r2 : ∀ w, S w → ∀ a, Has n ((d1, v1) :: env) a → (execOp a.eval o2).run P w = .ok (.value v2) w) (r3 : ∀ w, S w → ∀ a, Has n ((d2, v2) :: ((d1, v1) :: env)) a → (execOp a.eval o3).run P w = .ok (.value v3) w) (k : ∀ a', Has n ((d3, v3) :: ((d2, v2) :: ((d1, v1) :: env))) a' → wpT P ops Q S T st r a' w) : wpT P ops Q S T st (.op i1 (.op i2 (.op i3 r))) a w := by
  obtain ⟨hi1, hc1, g1, e1, b1, hk⟩ := vc_cons hk
  obtain ⟨hi2, hc2, g2, e2, b2, hk⟩ := vc_cons hk
  obtain ⟨hi3, hc3, g3, e3, b3, hk⟩ := vc_cons hk
  exact Go.Rx.T.cv ha hi1 hc1 (fun w hS => r1 w hS _ ha) g1 e1 b1 fun a ha => Go.Rx.T.cv ha hi2 hc2 (fun w hS => r2 w hS _ ha) g2 e2 b2 fun a ha => Go.Rx.T.cv ha hi3 hc3 (fun w hS => r3 w hS _ ha) g3 e3 b3 fun a ha => k _ ha
theorem c4 {i1 i2 i3 i4 : Nat} {o1 o2 o3 o4 : Oper} {d1 d2 d3 d4 : Nat} {v1 v2 v3 v4 : Value} (ha : Has n env a) (hk : vc ops st n [i1, i2, i3, i4] = some [(o1, d1), (o2, d2), (o3, d3), (o4, d4)]) (r1 : ∀ w, S w → ∀ a, Has n env a → (execOp a.eval o1).run P w = .ok (.value v1) w) (r2 : ∀ w, S w → ∀ a, Has n ((d1, v1) :: env) a → (execOp a.eval o2).run P w = .ok (.value v2) w) (r3 : ∀ w, S w → ∀ a, Has n ((d2, v2) :: ((d1, v1) :: env)) a → (execOp a.eval o3).run P w = .ok (.value v3) w) (r4 : ∀ w, S w → ∀ a, Has n ((d3, v3) :: ((d2, v2) :: ((d1, v1) :: env))) a → (execOp a.eval o4).run P w = .ok (.value v4) w) (k : ∀ a', Has n ((d4, v4) :: ((d3, v3) :: ((d2, v2) :: ((d1, v1) :: env)))) a' → wpT P ops Q S T st r a' w) : wpT P ops Q S T st (.op i1 (.op i2 (.op i3 (.op i4 r)))) a w := by
  obtain ⟨hi1, hc1, g1, e1, b1, hk⟩ := vc_cons hk
  obtain ⟨hi2, hc2, g2, e2, b2, hk⟩ := vc_cons hk
  obtain ⟨hi3, hc3, g3, e3, b3, hk⟩ := vc_cons hk
  obtain ⟨hi4, hc4, g4, e4, b4, hk⟩ := vc_cons hk
  exact Go.Rx.T.cv ha hi1 hc1 (fun w hS => r1 w hS _ ha) g1 e1 b1 fun a ha => Go.Rx.T.cv ha hi2 hc2 (fun w hS => r2 w hS _ ha) g2 e2 b2 fun a ha => Go.Rx.T.cv ha hi3 hc3 (fun w hS => r3 w hS _ ha) g3 e3 b3 fun a ha => Go.Rx.T.cv ha hi4 hc4 (fun w hS => r4 w hS _ ha) g4 e4 b4 fun a ha => k _ ha
end
end Go.Rx.T
