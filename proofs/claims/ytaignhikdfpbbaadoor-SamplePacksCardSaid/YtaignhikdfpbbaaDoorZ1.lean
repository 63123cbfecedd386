/- WALKS written by gen.py (own program) out of specs. -/
import Derived.Test.YtaignhikdfpbbaaDoorK0
namespace Go.Proofs.YtaignhikdfpbbaaDoor
open Go.RowKit Go.Rx
set_option maxRecDepth 100000
set_option maxHeartbeats 4000000
set_option linter.unusedVariables false
set_option linter.unusedSimpArgs false

theorem c_mod (x : Int) (w0 : World) :
    Calls Tryd.prog 41 #[ei x] w0 fun e w' => e = .returned (en (zmod x)) ∧ Below w0.heap.size w0 w' := by
  refine enter (args := [_]) Tryd.func41 rfl Tryd.ntmps41 rfl ?_
  intro a ha
  have hB := Below.refl w0.heap.size w0
  have htm := tm_facts x
  refine wp_seq_k fun K1 hK2 => ?_
  refine region ?_
  refine sv ha (r_assign ha rfl) rfl rfl rfl ?_; clear ha a; intro a ha
  refine hK2 _ _ ?_; clear hK2 K1
  refine wp_seq_k fun K3 hK4 => ?_
  refine region ?_
  refine sv ha (r_move ha rfl) rfl rfl rfl ?_; clear ha a; intro a ha
  refine sv ha (r_rem ha x 3329 rfl rfl (by omega)) rfl rfl rfl ?_; clear ha a; intro a ha
  refine sv ha (r_assign ha rfl) rfl rfl rfl ?_; clear ha a; intro a ha
  refine hK4 _ _ ?_; clear hK4 K3
  refine wp_seq_k fun K5 hK6 => ?_
  refine region ?_
  refine sv ha (r_move ha rfl) rfl rfl rfl ?_; clear ha a; intro a ha
  refine sv ha (r_move ha rfl) rfl rfl rfl ?_; clear ha a; intro a ha
  refine sv ha (r_shr ha (x.tmod 3329) 63 rfl rfl (by omega)) rfl rfl rfl ?_; clear ha a; intro a ha
  refine sv ha (r_andS ha 3329 (x.tmod 3329) (if (x.tmod 3329) < 0 then ((3329 : Nat) : Int) else 0) (by omega) rfl rfl (by omega) rfl) rfl rfl rfl ?_; clear ha a; intro a ha
  refine sv ha (n_of (r_add ha (x.tmod 3329) (if (x.tmod 3329) < 0 then ((3329 : Nat) : Int) else 0) rfl rfl (by split <;> omega)) (k := zmod x) htm.2.2) rfl rfl rfl ?_; clear ha a; intro a ha
  refine sv ha (r_assign ha rfl) rfl rfl rfl ?_; clear ha a; intro a ha
  refine hK6 _ _ ?_; clear hK6 K5
  refine wp_ret ?_
  repeat (first | (with_reducible refine t_ret ?_) | (with_reducible refine x_ret ?_))
  exact ret1 ha Tryd.results41 rfl ⟨rfl, hB⟩

theorem c_barrett (x : UInt32) (w0 : World) :
    Calls Tryd.prog 101 #[e32 x] w0 fun e w' => e = .returned (en (x.toNat % 3329)) ∧ Below w0.heap.size w0 w' := by
  refine enter (args := [_]) Tryd.func101 rfl Tryd.ntmps101 rfl ?_
  intro a ha
  have hB := Below.refl w0.heap.size w0
  have hx := lt32 x
  refine wp_seq_k fun K1 hK2 => ?_
  refine region ?_
  refine sv ha (r_assign ha rfl) rfl rfl rfl ?_; clear ha a; intro a ha
  refine hK2 _ _ ?_; clear hK2 K1
  refine wp_seq_k fun K3 hK4 => ?_
  refine region ?_
  refine sv ha (r_move ha rfl) rfl rfl rfl ?_; clear ha a; intro a ha
  refine sv ha (r_conv_u32_n ha x Tryd.runUnderlying108 Tryd.runUnderlying83 rfl) rfl rfl rfl ?_; clear ha a; intro a ha
  refine sv ha (rx_mul ha x.toNat 2642262849 rfl rfl (by omega)) rfl rfl rfl ?_; clear ha a; intro a ha
  refine sv ha (rx_shr ha (x.toNat * 2642262849) 43 rfl rfl (by omega)) rfl rfl rfl ?_; clear ha a; intro a ha
  refine sv ha (r_assign ha rfl) rfl rfl rfl ?_; clear ha a; intro a ha
  refine hK4 _ _ ?_; clear hK4 K3
  refine wp_seq_k fun K5 hK6 => ?_
  refine region ?_
  refine sv ha (r_move ha rfl) rfl rfl rfl ?_; clear ha a; intro a ha
  refine sv ha (r_conv_u32_i64 ha x Tryd.runUnderlying108 Tryd.runUnderlying3 rfl) rfl rfl rfl ?_; clear ha a; intro a ha
  refine sv ha (r_move ha rfl) rfl rfl rfl ?_; clear ha a; intro a ha
  refine sv ha (r_conv_un_i64 ha ((x.toNat * 2642262849) >>> 43) Tryd.runUnderlying83 Tryd.runUnderlying3 rfl (by omega)) rfl rfl rfl ?_; clear ha a; intro a ha
  refine sv ha (rn_mul ha ((x.toNat * 2642262849) >>> 43) 3329 rfl rfl (by omega)) rfl rfl rfl ?_; clear ha a; intro a ha
  refine sv ha (r_sub ha ((x.toNat : Nat) : Int) ((((x.toNat * 2642262849) >>> 43) * 3329 : Nat) : Int) rfl rfl (by omega)) rfl rfl rfl ?_; clear ha a; intro a ha
  refine sv ha (r_assign ha rfl) rfl rfl rfl ?_; clear ha a; intro a ha
  refine hK6 _ _ ?_; clear hK6 K5
  refine wp_seq_k fun K7 hK8 => ?_
  refine region ?_
  refine sv ha (r_move ha rfl) rfl rfl rfl ?_; clear ha a; intro a ha
  refine sv ha (r_move ha rfl) rfl rfl rfl ?_; clear ha a; intro a ha
  refine sv ha (r_shr ha (((x.toNat : Nat) : Int) - ((((x.toNat * 2642262849) >>> 43) * 3329 : Nat) : Int)) 63 rfl rfl (by omega)) rfl rfl rfl ?_; clear ha a; intro a ha
  refine sv ha (r_andS ha 3329 (((x.toNat : Nat) : Int) - ((((x.toNat * 2642262849) >>> 43) * 3329 : Nat) : Int)) (if (((x.toNat : Nat) : Int) - ((((x.toNat * 2642262849) >>> 43) * 3329 : Nat) : Int)) < 0 then ((3329 : Nat) : Int) else 0) (by omega) rfl rfl (by omega) rfl) rfl rfl rfl ?_; clear ha a; intro a ha
  refine sv ha (n_of (r_add ha (((x.toNat : Nat) : Int) - ((((x.toNat * 2642262849) >>> 43) * 3329 : Nat) : Int)) (if (((x.toNat : Nat) : Int) - ((((x.toNat * 2642262849) >>> 43) * 3329 : Nat) : Int)) < 0 then ((3329 : Nat) : Int) else 0) rfl rfl (by split <;> omega)) (k := x.toNat % 3329) (by split <;> omega)) rfl rfl rfl ?_; clear ha a; intro a ha
  refine sv ha (r_assign ha rfl) rfl rfl rfl ?_; clear ha a; intro a ha
  refine hK8 _ _ ?_; clear hK8 K7
  refine wp_ret ?_
  repeat (first | (with_reducible refine t_ret ?_) | (with_reducible refine x_ret ?_))
  exact ret1 ha Tryd.results101 rfl ⟨rfl, hB⟩

theorem c_add (x y : Int) (w0 : World) :
    Calls Tryd.prog 87 #[ei x, ei y] w0 fun e w' => e = .returned (en (zadd x y)) ∧ Below w0.heap.size w0 w' := by
  refine enter (args := [_, _]) Tryd.func87 rfl Tryd.ntmps87 rfl ?_
  intro a ha
  have hB := Below.refl w0.heap.size w0
  have hza := zmod_lt x
  have hzb := zmod_lt y
  refine wp_seq_k fun K1 hK2 => ?_
  refine region ?_
  refine sv ha (r_assign ha rfl) rfl rfl rfl ?_; clear ha a; intro a ha
  refine hK2 _ _ ?_; clear hK2 K1
  refine wp_seq_k fun K3 hK4 => ?_
  refine region ?_
  refine sv ha (r_move ha rfl) rfl rfl rfl ?_; clear ha a; intro a ha
  refine sc ha (r_call ha [ei x] rfl Tryd.call41) rfl rfl rfl (c_mod x _ ) ?_
  clear ha a
  rintro e w5 ⟨rfl, hBc⟩
  have hg := grown_call hBc; clear hBc
  replace hB := keepB0 hg hB
  clear hg
  refine ⟨_, rfl, ?_⟩; intro a ha
  refine sv ha (r_move ha rfl) rfl rfl rfl ?_; clear ha a; intro a ha
  refine sc ha (r_call ha [ei y] rfl Tryd.call41) rfl rfl rfl (c_mod y _ ) ?_
  clear ha a
  rintro e w6 ⟨rfl, hBc⟩
  have hg := grown_call hBc; clear hBc
  replace hB := keepB0 hg hB
  clear hg
  refine ⟨_, rfl, ?_⟩; intro a ha
  refine sv ha (rn_add ha (zmod x) (zmod y) rfl rfl (by omega)) rfl rfl rfl ?_; clear ha a; intro a ha
  refine sc ha (r_call ha [ei (((zmod x) + (zmod y) : Nat) : Int)] rfl Tryd.call41) rfl rfl rfl (c_mod (((zmod x) + (zmod y) : Nat) : Int) _ ) ?_
  clear ha a
  rintro e w7 ⟨rfl, hBc⟩
  have hg := grown_call hBc; clear hBc
  replace hB := keepB0 hg hB
  clear hg
  refine ⟨_, rfl, ?_⟩; intro a ha
  refine sv ha (r_assign ha rfl) rfl rfl rfl ?_; clear ha a; intro a ha
  refine hK4 _ _ ?_; clear hK4 K3
  refine wp_ret ?_
  repeat (first | (with_reducible refine t_ret ?_) | (with_reducible refine x_ret ?_))
  exact ret1 ha Tryd.results87 rfl ⟨rfl, hB⟩

theorem c_sub (x y : Int) (w0 : World) :
    Calls Tryd.prog 35 #[ei x, ei y] w0 fun e w' => e = .returned (en (zsub x y)) ∧ Below w0.heap.size w0 w' := by
  refine enter (args := [_, _]) Tryd.func35 rfl Tryd.ntmps35 rfl ?_
  intro a ha
  have hB := Below.refl w0.heap.size w0
  have hza := zmod_lt x
  have hzb := zmod_lt y
  refine wp_seq_k fun K1 hK2 => ?_
  refine region ?_
  refine sv ha (r_assign ha rfl) rfl rfl rfl ?_; clear ha a; intro a ha
  refine hK2 _ _ ?_; clear hK2 K1
  refine wp_seq_k fun K3 hK4 => ?_
  refine region ?_
  refine sv ha (r_move ha rfl) rfl rfl rfl ?_; clear ha a; intro a ha
  refine sc ha (r_call ha [ei x] rfl Tryd.call41) rfl rfl rfl (c_mod x _ ) ?_
  clear ha a
  rintro e w5 ⟨rfl, hBc⟩
  have hg := grown_call hBc; clear hBc
  replace hB := keepB0 hg hB
  clear hg
  refine ⟨_, rfl, ?_⟩; intro a ha
  refine sv ha (r_move ha rfl) rfl rfl rfl ?_; clear ha a; intro a ha
  refine sc ha (r_call ha [ei y] rfl Tryd.call41) rfl rfl rfl (c_mod y _ ) ?_
  clear ha a
  rintro e w6 ⟨rfl, hBc⟩
  have hg := grown_call hBc; clear hBc
  replace hB := keepB0 hg hB
  clear hg
  refine ⟨_, rfl, ?_⟩; intro a ha
  refine sv ha (r_sub ha ((zmod x : Nat) : Int) ((zmod y : Nat) : Int) rfl rfl (by omega)) rfl rfl rfl ?_; clear ha a; intro a ha
  refine sc ha (r_call ha [ei (((zmod x : Nat) : Int) - ((zmod y : Nat) : Int))] rfl Tryd.call41) rfl rfl rfl (c_mod (((zmod x : Nat) : Int) - ((zmod y : Nat) : Int)) _ ) ?_
  clear ha a
  rintro e w7 ⟨rfl, hBc⟩
  have hg := grown_call hBc; clear hBc
  replace hB := keepB0 hg hB
  clear hg
  refine ⟨_, rfl, ?_⟩; intro a ha
  refine sv ha (r_assign ha rfl) rfl rfl rfl ?_; clear ha a; intro a ha
  refine hK4 _ _ ?_; clear hK4 K3
  refine wp_ret ?_
  repeat (first | (with_reducible refine t_ret ?_) | (with_reducible refine x_ret ?_))
  exact ret1 ha Tryd.results35 rfl ⟨rfl, hB⟩

theorem c_mul (x y : Int) (w0 : World) :
    Calls Tryd.prog 86 #[ei x, ei y] w0 fun e w' => e = .returned (en (zmul x y)) ∧ Below w0.heap.size w0 w' := by
  refine enter (args := [_, _]) Tryd.func86 rfl Tryd.ntmps86 rfl ?_
  intro a ha
  have hB := Below.refl w0.heap.size w0
  have hzp := zprod_le x y
  refine wp_seq_k fun K1 hK2 => ?_
  refine region ?_
  refine sv ha (r_assign ha rfl) rfl rfl rfl ?_; clear ha a; intro a ha
  refine hK2 _ _ ?_; clear hK2 K1
  refine wp_seq_k fun K3 hK4 => ?_
  refine region ?_
  refine sv ha (r_move ha rfl) rfl rfl rfl ?_; clear ha a; intro a ha
  refine sc ha (r_call ha [ei x] rfl Tryd.call41) rfl rfl rfl (c_mod x _ ) ?_
  clear ha a
  rintro e w5 ⟨rfl, hBc⟩
  have hg := grown_call hBc; clear hBc
  replace hB := keepB0 hg hB
  clear hg
  refine ⟨_, rfl, ?_⟩; intro a ha
  refine sv ha (r_move ha rfl) rfl rfl rfl ?_; clear ha a; intro a ha
  refine sc ha (r_call ha [ei y] rfl Tryd.call41) rfl rfl rfl (c_mod y _ ) ?_
  clear ha a
  rintro e w6 ⟨rfl, hBc⟩
  have hg := grown_call hBc; clear hBc
  replace hB := keepB0 hg hB
  clear hg
  refine ⟨_, rfl, ?_⟩; intro a ha
  refine sv ha (rn_mul ha (zmod x) (zmod y) rfl rfl (by omega)) rfl rfl rfl ?_; clear ha a; intro a ha
  refine sv ha (r_conv_n_u32w ha ((zmod x) * (zmod y)) Tryd.runUnderlying3 Tryd.runUnderlying108 rfl) rfl rfl rfl ?_; clear ha a; intro a ha
  refine sc ha (r_call ha [e32 (UInt32.ofNat ((zmod x) * (zmod y)))] rfl Tryd.call101) rfl rfl rfl (c_barrett (UInt32.ofNat ((zmod x) * (zmod y))) _ ) ?_
  clear ha a
  rintro e w7 ⟨rfl, hBc⟩
  have hg := grown_call hBc; clear hBc
  replace hB := keepB0 hg hB
  clear hg
  refine ⟨_, rfl, ?_⟩; intro a ha
  refine sv ha (r_assign ha rfl) rfl rfl rfl ?_; clear ha a; intro a ha
  refine hK4 _ _ ?_; clear hK4 K3
  refine wp_ret ?_
  repeat (first | (with_reducible refine t_ret ?_) | (with_reducible refine x_ret ?_))
  exact ret1 ha Tryd.results86 rfl ⟨(congrArg (fun n : Nat => Ending.returned (en n)) (mul_eq x y)), hB⟩

theorem c_comp (d : Nat) (x : Int) (w0 : World) (h1 : 1 ≤ d) (h2 : d ≤ 11) :
    Calls Tryd.prog 44 #[en d, ei x] w0 fun e w' => e = .returned (en (zcomp d x)) ∧ Below w0.heap.size w0 w' := by
  refine enter (args := [_, _]) Tryd.func44 rfl Tryd.ntmps44 rfl ?_
  intro a ha
  have hB := Below.refl w0.heap.size w0
  have hp := Nat.pow_le_pow_right (n := 2) (by decide) (show d + 1 ≤ 12 by omega)
  have hp2 := Nat.pow_le_pow_right (n := 2) (by decide) (show d ≤ 11 by omega)
  have hp3 : 1 ≤ 2 ^ d := Nat.one_le_two_pow
  have hx := zmod_lt x
  have hm := Nat.mul_le_mul (show zmod x ≤ 3328 by omega) hp
  refine wp_seq_k fun K1 hK2 => ?_
  refine region ?_
  refine sv ha (r_assign ha rfl) rfl rfl rfl ?_; clear ha a; intro a ha
  refine hK2 _ _ ?_; clear hK2 K1
  refine wp_seq_k fun K3 hK4 => ?_
  refine wp_seq_k fun K5 hK6 => ?_
  refine region ?_
  refine sv ha (r_move ha rfl) rfl rfl rfl ?_; clear ha a; intro a ha
  refine sv ha (r_lss ha ((d : Nat) : Int) 1 false rfl rfl (decide_eq_false (by omega))) rfl rfl rfl ?_; clear ha a; intro a ha
  refine sv ha (r_move ha rfl) rfl rfl rfl ?_; clear ha a; intro a ha
  refine svg ha (r_move ha rfl) rfl rfl rfl rfl rfl ?_; clear ha a; intro a ha
  refine svg ha (r_gtr ha ((d : Nat) : Int) 11 false rfl rfl (decide_eq_false (by omega))) rfl rfl rfl rfl rfl ?_; clear ha a; intro a ha
  refine sv ha (r_pick ha false rfl rfl) rfl rfl rfl ?_; clear ha a; intro a ha
  refine hK6 _ _ ?_; clear hK6 K5
  refine cond_f ha rfl ?_
  refine wp_skip ?_
  refine hK4 _ _ ?_; clear hK4 K3
  refine wp_seq_k fun K7 hK8 => ?_
  refine region ?_
  refine sv ha (r_move ha rfl) rfl rfl rfl ?_; clear ha a; intro a ha
  refine sc ha (r_call ha [ei x] rfl Tryd.call41) rfl rfl rfl (c_mod x _ ) ?_
  clear ha a
  rintro e w9 ⟨rfl, hBc⟩
  have hg := grown_call hBc; clear hBc
  replace hB := keepB0 hg hB
  clear hg
  refine ⟨_, rfl, ?_⟩; intro a ha
  refine sv ha (r_move ha rfl) rfl rfl rfl ?_; clear ha a; intro a ha
  refine sv ha (rn_add ha d 1 rfl rfl (by omega)) rfl rfl rfl ?_; clear ha a; intro a ha
  refine sv ha (r_conv_n_u64 ha (d + 1) Tryd.runUnderlying3 Tryd.runUnderlying45 rfl (by omega)) rfl rfl rfl ?_; clear ha a; intro a ha
  refine sv ha (rn_shl ha (zmod x) (d + 1) rfl rfl (by omega) (by omega)) rfl rfl rfl ?_; clear ha a; intro a ha
  refine sv ha (rn_add ha ((zmod x) * 2 ^ (d + 1)) 3329 rfl rfl (by omega)) rfl rfl rfl ?_; clear ha a; intro a ha
  refine sv ha (rn_quo ha (((zmod x) * 2 ^ (d + 1)) + 3329) 6658 rfl rfl (by omega) (by omega)) rfl rfl rfl ?_; clear ha a; intro a ha
  refine sv ha (r_move ha rfl) rfl rfl rfl ?_; clear ha a; intro a ha
  refine sv ha (r_conv_n_u64 ha d Tryd.runUnderlying3 Tryd.runUnderlying45 rfl (by omega)) rfl rfl rfl ?_; clear ha a; intro a ha
  refine sv ha (rn_shl ha 1 d rfl rfl (by omega) (by omega)) rfl rfl rfl ?_; clear ha a; intro a ha
  refine sv ha (rn_sub ha (1 * 2 ^ d) 1 rfl rfl (by omega) (by omega)) rfl rfl rfl ?_; clear ha a; intro a ha
  refine sv ha (r_mask ha (((((zmod x) * 2 ^ (d + 1)) + 3329) / 6658 : Nat) : Int) d (by omega) (m := (1 * 2 ^ d) - 1) (by omega) rfl rfl) rfl rfl rfl ?_; clear ha a; intro a ha
  refine sv ha (r_assign ha rfl) rfl rfl rfl ?_; clear ha a; intro a ha
  refine hK8 _ _ ?_; clear hK8 K7
  refine wp_ret ?_
  repeat (first | (with_reducible refine t_ret ?_) | (with_reducible refine x_ret ?_))
  exact ret1 ha Tryd.results44 rfl ⟨(congrArg (fun n : Nat => Ending.returned (en n)) (by rw [← Int.natCast_emod, Int.toNat_natCast]; rfl)), hB⟩

theorem c_compN (d x : Int) (w0 : World) (hd : d < 1 ∨ 11 < d) :
    Calls Tryd.prog 44 #[ei d, ei x] w0 fun e w' => e = .returned (en 0) ∧ Below w0.heap.size w0 w' := by
  refine enter (args := [_, _]) Tryd.func44 rfl Tryd.ntmps44 rfl ?_
  intro a ha
  have hB := Below.refl w0.heap.size w0
  refine wp_seq_k fun K1 hK2 => ?_
  refine region ?_
  refine sv ha (r_assign ha rfl) rfl rfl rfl ?_; clear ha a; intro a ha
  refine hK2 _ _ ?_; clear hK2 K1
  refine wp_seq_k fun K3 hK4 => ?_
  refine wp_seq_k fun K5 hK6 => ?_
  refine region ?_
  refine sv ha (r_move ha rfl) rfl rfl rfl ?_; clear ha a; intro a ha
  refine sv ha (r_lss ha d 1 (decide (d < 1)) rfl rfl (decide_eq_decide.2 (by omega))) rfl rfl rfl ?_; clear ha a; intro a ha
  refine sv ha (r_move ha rfl) rfl rfl rfl ?_; clear ha a; intro a ha
  cases hq7 : (decide (d < 1))
  all_goals rw [hq7] at ha
  case false =>
    replace hq7 := of_decide_eq_false hq7
    refine svg ha (r_move ha rfl) rfl rfl rfl rfl rfl ?_; clear ha a; intro a ha
    refine svg ha (r_gtr ha d 11 true rfl rfl (decide_eq_true (by omega))) rfl rfl rfl rfl rfl ?_; clear ha a; intro a ha
    refine sv ha (r_pick ha false rfl rfl) rfl rfl rfl ?_; clear ha a; intro a ha
    refine hK6 _ _ ?_; clear hK6 K5
    refine cond_t ha rfl ?_
    refine wp_seq_k fun K8 hK9 => ?_
    refine region ?_
    refine sv ha (r_assign ha rfl) rfl rfl rfl ?_; clear ha a; intro a ha
    refine hK9 _ _ ?_; clear hK9 K8
    refine wp_ret ?_
    repeat (first | (with_reducible refine t_ret ?_) | (with_reducible refine x_ret ?_))
    exact ret1 ha Tryd.results44 rfl ⟨rfl, hB⟩
  case true =>
    replace hq7 := of_decide_eq_true hq7
    refine sno ha rfl rfl rfl rfl rfl rfl ?_; clear ha a; intro a ha
    refine sno ha rfl rfl rfl rfl rfl rfl ?_; clear ha a; intro a ha
    refine sv ha (r_pick ha true rfl rfl) rfl rfl rfl ?_; clear ha a; intro a ha
    refine hK6 _ _ ?_; clear hK6 K5
    refine cond_t ha rfl ?_
    refine wp_seq_k fun K10 hK11 => ?_
    refine region ?_
    refine sv ha (r_assign ha rfl) rfl rfl rfl ?_; clear ha a; intro a ha
    refine hK11 _ _ ?_; clear hK11 K10
    refine wp_ret ?_
    repeat (first | (with_reducible refine t_ret ?_) | (with_reducible refine x_ret ?_))
    exact ret1 ha Tryd.results44 rfl ⟨rfl, hB⟩

theorem c_compZ (d x : Int) (w0 : World) :
    Calls Tryd.prog 44 #[ei d, ei x] w0 fun e w' => e = .returned (en (zcompZ d x)) ∧ Below w0.heap.size w0 w' := by
  by_cases h : 1 ≤ d ∧ d ≤ 11
  · obtain ⟨n, rfl⟩ := Int.eq_ofNat_of_zero_le (show 0 ≤ d by omega)
    refine (c_comp n x w0 (by omega) (by omega)).mono fun e w h' => ?_
    rw [zcompZ, if_pos h]; exact h'
  · refine (c_compN d x w0 (by omega)).mono fun e w h' => ?_
    rw [zcompZ, if_neg h]; exact h'

theorem c_dec (d : Nat) (x : Int) (w0 : World) (h1 : 1 ≤ d) (h2 : d ≤ 11) :
    Calls Tryd.prog 46 #[en d, ei x] w0 fun e w' => e = .returned (en (zdec d x)) ∧ Below w0.heap.size w0 w' := by
  refine enter (args := [_, _]) Tryd.func46 rfl Tryd.ntmps46 rfl ?_
  intro a ha
  have hB := Below.refl w0.heap.size w0
  have hp := Nat.pow_le_pow_right (n := 2) (by decide) (show d + 1 ≤ 12 by omega)
  have hp2 := Nat.pow_le_pow_right (n := 2) (by decide) (show d ≤ 11 by omega)
  have hp3 : 1 ≤ 2 ^ d := Nat.one_le_two_pow
  have hr0 := Int.emod_nonneg x (show ((2 ^ d : Nat) : Int) ≠ 0 by omega)
  have hr1 := Int.emod_lt_of_pos x (show (0 : Int) < ((2 ^ d : Nat) : Int) by omega)
  refine wp_seq_k fun K1 hK2 => ?_
  refine region ?_
  refine sv ha (r_assign ha rfl) rfl rfl rfl ?_; clear ha a; intro a ha
  refine hK2 _ _ ?_; clear hK2 K1
  refine wp_seq_k fun K3 hK4 => ?_
  refine wp_seq_k fun K5 hK6 => ?_
  refine region ?_
  refine sv ha (r_move ha rfl) rfl rfl rfl ?_; clear ha a; intro a ha
  refine sv ha (r_lss ha ((d : Nat) : Int) 1 false rfl rfl (decide_eq_false (by omega))) rfl rfl rfl ?_; clear ha a; intro a ha
  refine sv ha (r_move ha rfl) rfl rfl rfl ?_; clear ha a; intro a ha
  refine svg ha (r_move ha rfl) rfl rfl rfl rfl rfl ?_; clear ha a; intro a ha
  refine svg ha (r_gtr ha ((d : Nat) : Int) 11 false rfl rfl (decide_eq_false (by omega))) rfl rfl rfl rfl rfl ?_; clear ha a; intro a ha
  refine sv ha (r_pick ha false rfl rfl) rfl rfl rfl ?_; clear ha a; intro a ha
  refine hK6 _ _ ?_; clear hK6 K5
  refine cond_f ha rfl ?_
  refine wp_skip ?_
  refine hK4 _ _ ?_; clear hK4 K3
  refine wp_seq_k fun K7 hK8 => ?_
  refine region ?_
  refine sv ha (r_move ha rfl) rfl rfl rfl ?_; clear ha a; intro a ha
  refine sv ha (r_move ha rfl) rfl rfl rfl ?_; clear ha a; intro a ha
  refine sv ha (r_conv_n_u64 ha d Tryd.runUnderlying3 Tryd.runUnderlying45 rfl (by omega)) rfl rfl rfl ?_; clear ha a; intro a ha
  refine sv ha (rn_shl ha 1 d rfl rfl (by omega) (by omega)) rfl rfl rfl ?_; clear ha a; intro a ha
  refine sv ha (rn_sub ha (1 * 2 ^ d) 1 rfl rfl (by omega) (by omega)) rfl rfl rfl ?_; clear ha a; intro a ha
  refine sv ha (r_mask ha x d (by omega) (m := (1 * 2 ^ d) - 1) (by omega) rfl rfl) rfl rfl rfl ?_; clear ha a; intro a ha
  refine sv ha (r_assign ha rfl) rfl rfl rfl ?_; clear ha a; intro a ha
  refine hK8 _ _ ?_; clear hK8 K7
  refine wp_seq_k fun K9 hK10 => ?_
  refine region ?_
  refine sv ha (r_move ha rfl) rfl rfl rfl ?_; clear ha a; intro a ha
  refine sv ha (rn_mul ha 6658 ((x % (2 ^ d : Nat)).toNat) rfl rfl (by omega)) rfl rfl rfl ?_; clear ha a; intro a ha
  refine sv ha (r_move ha rfl) rfl rfl rfl ?_; clear ha a; intro a ha
  refine sv ha (r_conv_n_u64 ha d Tryd.runUnderlying3 Tryd.runUnderlying45 rfl (by omega)) rfl rfl rfl ?_; clear ha a; intro a ha
  refine sv ha (rn_shl ha 1 d rfl rfl (by omega) (by omega)) rfl rfl rfl ?_; clear ha a; intro a ha
  refine sv ha (rn_add ha (6658 * ((x % (2 ^ d : Nat)).toNat)) (1 * 2 ^ d) rfl rfl (by omega)) rfl rfl rfl ?_; clear ha a; intro a ha
  refine sv ha (r_move ha rfl) rfl rfl rfl ?_; clear ha a; intro a ha
  refine sv ha (rn_add ha d 1 rfl rfl (by omega)) rfl rfl rfl ?_; clear ha a; intro a ha
  refine sv ha (r_conv_n_u64 ha (d + 1) Tryd.runUnderlying3 Tryd.runUnderlying45 rfl (by omega)) rfl rfl rfl ?_; clear ha a; intro a ha
  refine sv ha (rn_shr ha ((6658 * ((x % (2 ^ d : Nat)).toNat)) + (1 * 2 ^ d)) (d + 1) rfl rfl (by omega)) rfl rfl rfl ?_; clear ha a; intro a ha
  refine sv ha (r_assign ha rfl) rfl rfl rfl ?_; clear ha a; intro a ha
  refine hK10 _ _ ?_; clear hK10 K9
  refine wp_ret ?_
  repeat (first | (with_reducible refine t_ret ?_) | (with_reducible refine x_ret ?_))
  exact ret1 ha Tryd.results46 rfl ⟨(congrArg (fun n : Nat => Ending.returned (en n)) (by rw [Nat.one_mul, Nat.shiftRight_eq_div_pow]; rfl)), hB⟩

theorem c_decN (d x : Int) (w0 : World) (hd : d < 1 ∨ 11 < d) :
    Calls Tryd.prog 46 #[ei d, ei x] w0 fun e w' => e = .returned (en 0) ∧ Below w0.heap.size w0 w' := by
  refine enter (args := [_, _]) Tryd.func46 rfl Tryd.ntmps46 rfl ?_
  intro a ha
  have hB := Below.refl w0.heap.size w0
  refine wp_seq_k fun K1 hK2 => ?_
  refine region ?_
  refine sv ha (r_assign ha rfl) rfl rfl rfl ?_; clear ha a; intro a ha
  refine hK2 _ _ ?_; clear hK2 K1
  refine wp_seq_k fun K3 hK4 => ?_
  refine wp_seq_k fun K5 hK6 => ?_
  refine region ?_
  refine sv ha (r_move ha rfl) rfl rfl rfl ?_; clear ha a; intro a ha
  refine sv ha (r_lss ha d 1 (decide (d < 1)) rfl rfl (decide_eq_decide.2 (by omega))) rfl rfl rfl ?_; clear ha a; intro a ha
  refine sv ha (r_move ha rfl) rfl rfl rfl ?_; clear ha a; intro a ha
  cases hq7 : (decide (d < 1))
  all_goals rw [hq7] at ha
  case false =>
    replace hq7 := of_decide_eq_false hq7
    refine svg ha (r_move ha rfl) rfl rfl rfl rfl rfl ?_; clear ha a; intro a ha
    refine svg ha (r_gtr ha d 11 true rfl rfl (decide_eq_true (by omega))) rfl rfl rfl rfl rfl ?_; clear ha a; intro a ha
    refine sv ha (r_pick ha false rfl rfl) rfl rfl rfl ?_; clear ha a; intro a ha
    refine hK6 _ _ ?_; clear hK6 K5
    refine cond_t ha rfl ?_
    refine wp_seq_k fun K8 hK9 => ?_
    refine region ?_
    refine sv ha (r_assign ha rfl) rfl rfl rfl ?_; clear ha a; intro a ha
    refine hK9 _ _ ?_; clear hK9 K8
    refine wp_ret ?_
    repeat (first | (with_reducible refine t_ret ?_) | (with_reducible refine x_ret ?_))
    exact ret1 ha Tryd.results46 rfl ⟨rfl, hB⟩
  case true =>
    replace hq7 := of_decide_eq_true hq7
    refine sno ha rfl rfl rfl rfl rfl rfl ?_; clear ha a; intro a ha
    refine sno ha rfl rfl rfl rfl rfl rfl ?_; clear ha a; intro a ha
    refine sv ha (r_pick ha true rfl rfl) rfl rfl rfl ?_; clear ha a; intro a ha
    refine hK6 _ _ ?_; clear hK6 K5
    refine cond_t ha rfl ?_
    refine wp_seq_k fun K10 hK11 => ?_
    refine region ?_
    refine sv ha (r_assign ha rfl) rfl rfl rfl ?_; clear ha a; intro a ha
    refine hK11 _ _ ?_; clear hK11 K10
    refine wp_ret ?_
    repeat (first | (with_reducible refine t_ret ?_) | (with_reducible refine x_ret ?_))
    exact ret1 ha Tryd.results46 rfl ⟨rfl, hB⟩

theorem c_decZ (d x : Int) (w0 : World) :
    Calls Tryd.prog 46 #[ei d, ei x] w0 fun e w' => e = .returned (en (zdecZ d x)) ∧ Below w0.heap.size w0 w' := by
  by_cases h : 1 ≤ d ∧ d ≤ 11
  · obtain ⟨n, rfl⟩ := Int.eq_ofNat_of_zero_le (show 0 ≤ d by omega)
    refine (c_dec n x w0 (by omega) (by omega)).mono fun e w h' => ?_
    rw [zdecZ, if_pos h]; exact h'
  · refine (c_decN d x w0 (by omega)).mono fun e w h' => ?_
    rw [zdecZ, if_neg h]; exact h'

theorem c_zeta (i : Int) (w0 : World) (hP : GlobP w0) :
    Calls Tryd.prog 85 #[ei i] w0 fun e w' => e = .returned (en (zz i 7)) ∧ Below w0.heap.size w0 w' := by
  refine enter (args := [_]) Tryd.func85 rfl Tryd.ntmps85 rfl ?_
  intro a ha
  have hB := Below.refl w0.heap.size w0
  refine wp_seq_k fun K1 hK2 => ?_
  refine region ?_
  refine sv ha (r_assign ha rfl) rfl rfl rfl ?_; clear ha a; intro a ha
  refine hK2 _ _ ?_; clear hK2 K1
  refine wp_seq_k fun K3 hK4 => ?_
  refine region ?_
  refine sv ha (r_assign ha rfl) rfl rfl rfl ?_; clear ha a; intro a ha
  refine hK4 _ _ ?_; clear hK4 K3
  refine wp_seq_k fun K5 hK6 => ?_
  refine wp_seq_k fun K7 hK8 => ?_
  refine region ?_
  refine sv ha (r_loadR ha rfl Tryd.isAgg106 Tryd.sizeOf106 (C := (powers).map en) rfl (cells_glob (glob_0 hP hB))) rfl rfl rfl ?_; clear ha a; intro a ha
  refine sv ha (r_move ha rfl) rfl rfl rfl ?_; clear ha a; intro a ha
  refine hK8 _ _ ?_; clear hK8 K7
  refine wp_block ?_
  refine loopG (fun (j : Nat) a w => (j ≤ 7) ∧ Has 22 [(0, ei i), (2, .int .i64 0), (6, .agg ((powers).map en).toArray), (7, en j), (3, en (zz i j))] a ∧ Below w0.heap.size w0 w) (fun j => 7 - j) 0 ⟨(by omega), ha.to [0, 2, 6, 7, 3] rfl, hB⟩ ?_
  clear ha a hB
  intro j a w9 ⟨hkj, ha, hB⟩
  refine wp_seq_k fun K10 hK11 => ?_
  refine region ?_
  refine sv ha (r_lss ha ((j : Nat) : Int) 7 (decide (j < 7)) rfl rfl (decide_eq_decide.2 (by omega))) rfl rfl rfl ?_; clear ha a; intro a ha
  refine hK11 _ _ ?_; clear hK11 K10
  refine wp_seq_k fun K12 hK13 => ?_
  refine cond_if ha rfl (fun hc14 => ?_) (fun hc14 => ?_)
  · skip
    replace hc14 := of_decide_eq_true hc14
    refine wp_skip ?_
    refine hK13 _ _ ?_; clear hK13 K12
    refine wp_seq_k fun K15 hK16 => ?_
    refine wp_block ?_
    refine wp_seq_k fun K17 hK18 => ?_
    refine region ?_
    refine sv ha (r_move ha rfl) rfl rfl rfl ?_; clear ha a; intro a ha
    refine sv ha (r_index (C := (powers).map en) ha j rfl rfl Tryd.runUnderlying106 Tryd.sizeOf3 Tryd.isAgg3 (by omega) (get_map en powers 0 j (by rw [show List.length powers = 7 from rfl]; omega))) rfl rfl rfl ?_; clear ha a; intro a ha
    refine sv ha (r_assign ha rfl) rfl rfl rfl ?_; clear ha a; intro a ha
    refine sv ha (r_assign ha rfl) rfl rfl rfl ?_; clear ha a; intro a ha
    refine hK18 _ _ ?_; clear hK18 K17
    refine wp_seq_k fun K19 hK20 => ?_
    refine region ?_
    refine sv ha (r_move ha rfl) rfl rfl rfl ?_; clear ha a; intro a ha
    refine sv ha (r_move ha rfl) rfl rfl rfl ?_; clear ha a; intro a ha
    refine sv ha (r_conv_n_u64 ha j Tryd.runUnderlying3 Tryd.runUnderlying45 rfl (by omega)) rfl rfl rfl ?_; clear ha a; intro a ha
    refine sv ha (r_shr ha i j rfl rfl (by omega)) rfl rfl rfl ?_; clear ha a; intro a ha
    refine sv ha (r_mask ha (i / 2 ^ j) 1 (by omega) (m := 1) rfl rfl rfl) rfl rfl rfl ?_; clear ha a; intro a ha
    refine sv ha (r_eql ha ((((i / 2 ^ j) % (2 ^ 1 : Nat)).toNat : Nat) : Int) 1 (decide (((i / 2 ^ j) % (2 ^ 1 : Nat)).toNat = 1)) rfl rfl (decide_eq_decide.2 (by omega))) rfl rfl rfl ?_; clear ha a; intro a ha
    refine hK20 _ _ ?_; clear hK20 K19
    refine cond_if ha rfl (fun hc21 => ?_) (fun hc21 => ?_)
    · skip
      replace hc21 := of_decide_eq_true hc21
      refine region ?_
      refine sv ha (r_move ha rfl) rfl rfl rfl ?_; clear ha a; intro a ha
      refine sv ha (r_move ha rfl) rfl rfl rfl ?_; clear ha a; intro a ha
      refine sc ha (r_call ha [ei ((zz i j : Nat) : Int), ei ((powers.getD j 0 : Nat) : Int)] rfl Tryd.call86) rfl rfl rfl (c_mul ((zz i j : Nat) : Int) ((powers.getD j 0 : Nat) : Int) _ ) ?_
      clear ha a
      rintro e w22 ⟨rfl, hBc⟩
      have hg := grown_call hBc; clear hBc
      replace hB := keepB0 hg hB
      clear hg
      refine ⟨_, rfl, ?_⟩; intro a ha
      refine sv ha (r_assign ha rfl) rfl rfl rfl ?_; clear ha a; intro a ha
      refine hK16 _ _ ?_; clear hK16 K15
      refine region ?_
      refine sv ha (rn_add ha j 1 rfl rfl (by omega)) rfl rfl rfl ?_; clear ha a; intro a ha
      refine sv ha (r_move ha rfl) rfl rfl rfl ?_; clear ha a; intro a ha
      exact ⟨j + 1, by omega, (by omega), ha.to [0, 2, 6, 7, 3] (by simp only [zz]; first | (rw [if_pos (by assumption)]; rfl) | (rw [if_neg (by assumption)]; rfl)), hB⟩
    · skip
      replace hc21 := of_decide_eq_false hc21
      refine wp_skip ?_
      refine hK16 _ _ ?_; clear hK16 K15
      refine region ?_
      refine sv ha (rn_add ha j 1 rfl rfl (by omega)) rfl rfl rfl ?_; clear ha a; intro a ha
      refine sv ha (r_move ha rfl) rfl rfl rfl ?_; clear ha a; intro a ha
      exact ⟨j + 1, by omega, (by omega), ha.to [0, 2, 6, 7, 3] (by simp only [zz]; first | (rw [if_pos (by assumption)]; rfl) | (rw [if_neg (by assumption)]; rfl)), hB⟩
  · skip
    replace hc14 := of_decide_eq_false hc14
    refine wp_exit ?_
    obtain rfl : j = 7 := by omega
    refine hK6 _ _ ?_; clear hK13 K12 hK6 K5
    refine wp_seq_k fun K23 hK24 => ?_
    refine region ?_
    refine sv ha (r_move ha rfl) rfl rfl rfl ?_; clear ha a; intro a ha
    refine sv ha (r_assign ha rfl) rfl rfl rfl ?_; clear ha a; intro a ha
    refine hK24 _ _ ?_; clear hK24 K23
    refine wp_ret ?_
    repeat (first | (with_reducible refine t_ret ?_) | (with_reducible refine x_ret ?_))
    exact ret1 ha Tryd.results85 rfl ⟨rfl, hB⟩

theorem c_rmod (x : Int) (w0 : World) :
    Calls Tryd.prog 43 #[ei x] w0 fun e w' => e = .returned (en (zmod x)) ∧ Below w0.heap.size w0 w' := by
  refine enter (args := [_]) Tryd.func43 rfl Tryd.ntmps43 rfl ?_
  intro a ha
  have hB := Below.refl w0.heap.size w0
  have htm := tm_emod x 3329 (by decide)
  have hzi := zmod_int x
  refine wp_seq_k fun K1 hK2 => ?_
  refine region ?_
  refine sv ha (r_assign ha rfl) rfl rfl rfl ?_; clear ha a; intro a ha
  refine hK2 _ _ ?_; clear hK2 K1
  refine wp_seq_k fun K3 hK4 => ?_
  refine region ?_
  refine sv ha (r_move ha rfl) rfl rfl rfl ?_; clear ha a; intro a ha
  refine sv ha (r_rem ha x 3329 rfl rfl (by omega)) rfl rfl rfl ?_; clear ha a; intro a ha
  refine sv ha (r_assign ha rfl) rfl rfl rfl ?_; clear ha a; intro a ha
  refine hK4 _ _ ?_; clear hK4 K3
  refine wp_seq_k fun K5 hK6 => ?_
  refine wp_seq_k fun K7 hK8 => ?_
  refine region ?_
  refine sv ha (r_move ha rfl) rfl rfl rfl ?_; clear ha a; intro a ha
  refine sv ha (r_lss ha (x.tmod 3329) 0 (decide (x.tmod 3329 < 0)) rfl rfl (decide_eq_decide.2 (by omega))) rfl rfl rfl ?_; clear ha a; intro a ha
  refine hK8 _ _ ?_; clear hK8 K7
  refine cond_if ha rfl (fun hc9 => ?_) (fun hc9 => ?_)
  · skip
    replace hc9 := of_decide_eq_true hc9
    refine region ?_
    refine sv ha (r_move ha rfl) rfl rfl rfl ?_; clear ha a; intro a ha
    refine sv ha (n_of (r_add ha (x.tmod 3329) 3329 rfl rfl (by omega)) (k := zmod x) (by omega)) rfl rfl rfl ?_; clear ha a; intro a ha
    refine sv ha (r_assign ha rfl) rfl rfl rfl ?_; clear ha a; intro a ha
    refine hK6 _ _ ?_; clear hK6 K5
    refine wp_seq_k fun K10 hK11 => ?_
    refine region ?_
    refine sv ha (r_move ha rfl) rfl rfl rfl ?_; clear ha a; intro a ha
    refine sv ha (r_assign ha rfl) rfl rfl rfl ?_; clear ha a; intro a ha
    refine hK11 _ _ ?_; clear hK11 K10
    refine wp_ret ?_
    repeat (first | (with_reducible refine t_ret ?_) | (with_reducible refine x_ret ?_))
    exact ret1 ha Tryd.results43 rfl ⟨(by first | rfl | exact congrArg (fun z : Int => Ending.returned (ei z)) (by omega)), hB⟩
  · skip
    replace hc9 := of_decide_eq_false hc9
    refine wp_skip ?_
    refine hK6 _ _ ?_; clear hK6 K5
    refine wp_seq_k fun K12 hK13 => ?_
    refine region ?_
    refine sv ha (r_move ha rfl) rfl rfl rfl ?_; clear ha a; intro a ha
    refine sv ha (r_assign ha rfl) rfl rfl rfl ?_; clear ha a; intro a ha
    refine hK13 _ _ ?_; clear hK13 K12
    refine wp_ret ?_
    repeat (first | (with_reducible refine t_ret ?_) | (with_reducible refine x_ret ?_))
    exact ret1 ha Tryd.results43 rfl ⟨(by first | rfl | exact congrArg (fun z : Int => Ending.returned (ei z)) (by omega)), hB⟩

theorem c_rpow (x : Int) (n : Nat) (w0 : World) :
    Calls Tryd.prog 102 #[ei x, en n] w0 fun e w' => e = .returned (en (rpow x n)) ∧ Below w0.heap.size w0 w' := by
  refine enter (args := [_, _]) Tryd.func102 rfl Tryd.ntmps102 rfl ?_
  intro a ha
  have hB := Below.refl w0.heap.size w0
  have hza := zmod_lt x
  refine wp_seq_k fun K1 hK2 => ?_
  refine region ?_
  refine sv ha (r_assign ha rfl) rfl rfl rfl ?_; clear ha a; intro a ha
  refine hK2 _ _ ?_; clear hK2 K1
  refine wp_seq_k fun K3 hK4 => ?_
  refine wp_seq_k fun K5 hK6 => ?_
  refine region ?_
  refine sv ha (r_move ha rfl) rfl rfl rfl ?_; clear ha a; intro a ha
  refine sv ha (r_lss ha ((n : Nat) : Int) 0 false rfl rfl (decide_eq_false (by omega))) rfl rfl rfl ?_; clear ha a; intro a ha
  refine hK6 _ _ ?_; clear hK6 K5
  refine cond_f ha rfl ?_
  refine wp_skip ?_
  refine hK4 _ _ ?_; clear hK4 K3
  refine wp_seq_k fun K7 hK8 => ?_
  refine region ?_
  refine sv ha (r_move ha rfl) rfl rfl rfl ?_; clear ha a; intro a ha
  refine sc ha (r_call ha [ei x] rfl Tryd.call43) rfl rfl rfl (c_rmod x _ ) ?_
  clear ha a
  rintro e w9 ⟨rfl, hBc⟩
  have hg := grown_call hBc; clear hBc
  replace hB := keepB0 hg hB
  clear hg
  refine ⟨_, rfl, ?_⟩; intro a ha
  refine sv ha (r_assign ha rfl) rfl rfl rfl ?_; clear ha a; intro a ha
  refine hK8 _ _ ?_; clear hK8 K7
  refine wp_seq_k fun K10 hK11 => ?_
  refine wp_seq_k fun K12 hK13 => ?_
  refine region ?_
  refine sv ha (r_move ha rfl) rfl rfl rfl ?_; clear ha a; intro a ha
  refine sv ha (r_eql ha ((zmod x : Nat) : Int) 0 (decide (zmod x = 0)) rfl rfl (decide_eq_decide.2 (by omega))) rfl rfl rfl ?_; clear ha a; intro a ha
  refine sv ha (r_move ha rfl) rfl rfl rfl ?_; clear ha a; intro a ha
  cases hq14 : (decide (zmod x = 0))
  all_goals rw [hq14] at ha
  case false =>
    replace hq14 := of_decide_eq_false hq14
    refine sno ha rfl rfl rfl rfl rfl rfl ?_; clear ha a; intro a ha
    refine sno ha rfl rfl rfl rfl rfl rfl ?_; clear ha a; intro a ha
    refine sv ha (r_pick ha false rfl rfl) rfl rfl rfl ?_; clear ha a; intro a ha
    refine hK13 _ _ ?_; clear hK13 K12
    refine cond_f ha rfl ?_
    refine wp_skip ?_
    refine hK11 _ _ ?_; clear hK11 K10
    refine wp_seq_k fun K15 hK16 => ?_
    refine region ?_
    refine sv ha (r_assign ha rfl) rfl rfl rfl ?_; clear ha a; intro a ha
    refine hK16 _ _ ?_; clear hK16 K15
    refine wp_seq_k fun K17 hK18 => ?_
    refine wp_seq_k fun K19 hK20 => ?_
    refine region ?_
    refine sv ha (r_assign ha rfl) rfl rfl rfl ?_; clear ha a; intro a ha
    refine hK20 _ _ ?_; clear hK20 K19
    refine wp_block ?_
    refine loopG (fun (i : Nat) a w => (i ≤ (n % 3328)) ∧ Has 28 [(0, en (zmod x)), (1, en n), (4, .int .i64 0), (7, en n), (8, .bool false), (9, ei x), (10, en (zmod x)), (11, en (zmod x)), (12, .bool false), (13, .bool false), (16, .bool false), (6, en i), (5, en (rp (zmod x) i))] a ∧ Below w0.heap.size w0 w) (fun i => (n % 3328) - i) 0 ⟨(by omega), ha.to [0, 1, 4, 7, 8, 9, 10, 11, 12, 13, 16, 6, 5] rfl, hB⟩ ?_
    clear ha a hB
    intro i a w21 ⟨hki, ha, hB⟩
    have hrl := rp_lt (zmod x) i
    have hmm := Nat.mul_le_mul (show rp (zmod x) i ≤ 3328 by omega) (show zmod x ≤ 3328 by omega)
    refine wp_seq_k fun K22 hK23 => ?_
    refine wp_seq_k fun K24 hK25 => ?_
    refine region ?_
    refine sv ha (r_move ha rfl) rfl rfl rfl ?_; clear ha a; intro a ha
    refine sv ha (r_move ha rfl) rfl rfl rfl ?_; clear ha a; intro a ha
    refine sv ha (rn_rem ha n 3328 rfl rfl (by omega)) rfl rfl rfl ?_; clear ha a; intro a ha
    refine sv ha (r_lss ha ((i : Nat) : Int) ((n % 3328 : Nat) : Int) (decide (i < n % 3328)) rfl rfl (decide_eq_decide.2 (by omega))) rfl rfl rfl ?_; clear ha a; intro a ha
    refine hK25 _ _ ?_; clear hK25 K24
    refine cond_if ha rfl (fun hc26 => ?_) (fun hc26 => ?_)
    · skip
      replace hc26 := of_decide_eq_true hc26
      refine wp_skip ?_
      refine hK23 _ _ ?_; clear hK23 K22
      refine wp_seq_k fun K27 hK28 => ?_
      refine wp_block ?_
      refine region ?_
      refine sv ha (r_move ha rfl) rfl rfl rfl ?_; clear ha a; intro a ha
      refine sv ha (r_move ha rfl) rfl rfl rfl ?_; clear ha a; intro a ha
      refine sv ha (rn_mul ha (rp (zmod x) i) (zmod x) rfl rfl (by omega)) rfl rfl rfl ?_; clear ha a; intro a ha
      refine sv ha (rn_rem ha ((rp (zmod x) i) * (zmod x)) 3329 rfl rfl (by omega)) rfl rfl rfl ?_; clear ha a; intro a ha
      refine sv ha (r_assign ha rfl) rfl rfl rfl ?_; clear ha a; intro a ha
      refine hK28 _ _ ?_; clear hK28 K27
      refine region ?_
      refine sv ha (r_move ha rfl) rfl rfl rfl ?_; clear ha a; intro a ha
      refine sv ha (rn_add ha i 1 rfl rfl (by omega)) rfl rfl rfl ?_; clear ha a; intro a ha
      refine sv ha (r_assign ha rfl) rfl rfl rfl ?_; clear ha a; intro a ha
      exact ⟨i + 1, by omega, (by omega), ha.to [0, 1, 4, 7, 8, 9, 10, 11, 12, 13, 16, 6, 5] rfl, hB⟩
    · skip
      replace hc26 := of_decide_eq_false hc26
      refine wp_exit ?_
      obtain rfl : i = (n % 3328) := by omega
      refine hK18 _ _ ?_; clear hK23 K22 hK18 K17
      refine wp_seq_k fun K29 hK30 => ?_
      refine region ?_
      refine sv ha (r_move ha rfl) rfl rfl rfl ?_; clear ha a; intro a ha
      refine sv ha (r_assign ha rfl) rfl rfl rfl ?_; clear ha a; intro a ha
      refine hK30 _ _ ?_; clear hK30 K29
      refine wp_ret ?_
      repeat (first | (with_reducible refine t_ret ?_) | (with_reducible refine x_ret ?_))
      exact ret1 ha Tryd.results102 rfl ⟨(by unfold rpow; first | (rw [if_pos ⟨by omega, by omega⟩]; done) | (rw [if_pos ⟨by omega, by omega⟩]; rfl) | (rw [if_neg (by omega)]; done) | (rw [if_neg (by omega)]; rfl)), hB⟩
  case true =>
    replace hq14 := of_decide_eq_true hq14
    refine svg ha (r_move ha rfl) rfl rfl rfl rfl rfl ?_; clear ha a; intro a ha
    refine svg ha (r_gtr ha ((n : Nat) : Int) 0 (decide (n > 0)) rfl rfl (decide_eq_decide.2 (by omega))) rfl rfl rfl rfl rfl ?_; clear ha a; intro a ha
    refine sv ha (r_pick ha true rfl rfl) rfl rfl rfl ?_; clear ha a; intro a ha
    refine hK13 _ _ ?_; clear hK13 K12
    refine cond_if ha rfl (fun hc31 => ?_) (fun hc31 => ?_)
    · skip
      replace hc31 := of_decide_eq_true hc31
      refine wp_seq_k fun K32 hK33 => ?_
      refine region ?_
      refine sv ha (r_assign ha rfl) rfl rfl rfl ?_; clear ha a; intro a ha
      refine hK33 _ _ ?_; clear hK33 K32
      refine wp_ret ?_
      repeat (first | (with_reducible refine t_ret ?_) | (with_reducible refine x_ret ?_))
      exact ret1 ha Tryd.results102 rfl ⟨(by unfold rpow; first | (rw [if_pos ⟨by omega, by omega⟩]; done) | (rw [if_pos ⟨by omega, by omega⟩]; rfl) | (rw [if_neg (by omega)]; done) | (rw [if_neg (by omega)]; rfl)), hB⟩
    · skip
      replace hc31 := of_decide_eq_false hc31
      refine wp_skip ?_
      refine hK11 _ _ ?_; clear hK11 K10
      refine wp_seq_k fun K34 hK35 => ?_
      refine region ?_
      refine sv ha (r_assign ha rfl) rfl rfl rfl ?_; clear ha a; intro a ha
      refine hK35 _ _ ?_; clear hK35 K34
      refine wp_seq_k fun K36 hK37 => ?_
      refine wp_seq_k fun K38 hK39 => ?_
      refine region ?_
      refine sv ha (r_assign ha rfl) rfl rfl rfl ?_; clear ha a; intro a ha
      refine hK39 _ _ ?_; clear hK39 K38
      refine wp_block ?_
      refine loopG (fun (i : Nat) a w => (i ≤ (n % 3328)) ∧ Has 28 [(0, en (zmod x)), (1, en n), (4, .int .i64 0), (7, en n), (8, .bool false), (9, ei x), (10, en (zmod x)), (11, en (zmod x)), (12, .bool true), (13, .bool true), (14, en n), (15, .bool (decide (n > 0))), (16, .bool (decide (n > 0))), (6, en i), (5, en (rp (zmod x) i))] a ∧ Below w0.heap.size w0 w) (fun i => (n % 3328) - i) 0 ⟨(by omega), ha.to [0, 1, 4, 7, 8, 9, 10, 11, 12, 13, 14, 15, 16, 6, 5] rfl, hB⟩ ?_
      clear ha a hB
      intro i a w40 ⟨hki, ha, hB⟩
      have hrl := rp_lt (zmod x) i
      have hmm := Nat.mul_le_mul (show rp (zmod x) i ≤ 3328 by omega) (show zmod x ≤ 3328 by omega)
      refine wp_seq_k fun K41 hK42 => ?_
      refine wp_seq_k fun K43 hK44 => ?_
      refine region ?_
      refine sv ha (r_move ha rfl) rfl rfl rfl ?_; clear ha a; intro a ha
      refine sv ha (r_move ha rfl) rfl rfl rfl ?_; clear ha a; intro a ha
      refine sv ha (rn_rem ha n 3328 rfl rfl (by omega)) rfl rfl rfl ?_; clear ha a; intro a ha
      refine sv ha (r_lss ha ((i : Nat) : Int) ((n % 3328 : Nat) : Int) (decide (i < n % 3328)) rfl rfl (decide_eq_decide.2 (by omega))) rfl rfl rfl ?_; clear ha a; intro a ha
      refine hK44 _ _ ?_; clear hK44 K43
      refine cond_if ha rfl (fun hc45 => ?_) (fun hc45 => ?_)
      · skip
        replace hc45 := of_decide_eq_true hc45
        refine wp_skip ?_
        refine hK42 _ _ ?_; clear hK42 K41
        refine wp_seq_k fun K46 hK47 => ?_
        refine wp_block ?_
        refine region ?_
        refine sv ha (r_move ha rfl) rfl rfl rfl ?_; clear ha a; intro a ha
        refine sv ha (r_move ha rfl) rfl rfl rfl ?_; clear ha a; intro a ha
        refine sv ha (rn_mul ha (rp (zmod x) i) (zmod x) rfl rfl (by omega)) rfl rfl rfl ?_; clear ha a; intro a ha
        refine sv ha (rn_rem ha ((rp (zmod x) i) * (zmod x)) 3329 rfl rfl (by omega)) rfl rfl rfl ?_; clear ha a; intro a ha
        refine sv ha (r_assign ha rfl) rfl rfl rfl ?_; clear ha a; intro a ha
        refine hK47 _ _ ?_; clear hK47 K46
        refine region ?_
        refine sv ha (r_move ha rfl) rfl rfl rfl ?_; clear ha a; intro a ha
        refine sv ha (rn_add ha i 1 rfl rfl (by omega)) rfl rfl rfl ?_; clear ha a; intro a ha
        refine sv ha (r_assign ha rfl) rfl rfl rfl ?_; clear ha a; intro a ha
        exact ⟨i + 1, by omega, (by omega), ha.to [0, 1, 4, 7, 8, 9, 10, 11, 12, 13, 14, 15, 16, 6, 5] rfl, hB⟩
      · skip
        replace hc45 := of_decide_eq_false hc45
        refine wp_exit ?_
        obtain rfl : i = (n % 3328) := by omega
        refine hK37 _ _ ?_; clear hK42 K41 hK37 K36
        refine wp_seq_k fun K48 hK49 => ?_
        refine region ?_
        refine sv ha (r_move ha rfl) rfl rfl rfl ?_; clear ha a; intro a ha
        refine sv ha (r_assign ha rfl) rfl rfl rfl ?_; clear ha a; intro a ha
        refine hK49 _ _ ?_; clear hK49 K48
        refine wp_ret ?_
        repeat (first | (with_reducible refine t_ret ?_) | (with_reducible refine x_ret ?_))
        exact ret1 ha Tryd.results102 rfl ⟨(by unfold rpow; first | (rw [if_pos ⟨by omega, by omega⟩]; done) | (rw [if_pos ⟨by omega, by omega⟩]; rfl) | (rw [if_neg (by omega)]; done) | (rw [if_neg (by omega)]; rfl)), hB⟩

theorem c_rpowN (x n : Int) (w0 : World) (hn : n < 0) :
    Calls Tryd.prog 102 #[ei x, ei n] w0 fun e w' => e = .returned (en 0) ∧ Below w0.heap.size w0 w' := by
  refine enter (args := [_, _]) Tryd.func102 rfl Tryd.ntmps102 rfl ?_
  intro a ha
  have hB := Below.refl w0.heap.size w0
  refine wp_seq_k fun K1 hK2 => ?_
  refine region ?_
  refine sv ha (r_assign ha rfl) rfl rfl rfl ?_; clear ha a; intro a ha
  refine hK2 _ _ ?_; clear hK2 K1
  refine wp_seq_k fun K3 hK4 => ?_
  refine wp_seq_k fun K5 hK6 => ?_
  refine region ?_
  refine sv ha (r_move ha rfl) rfl rfl rfl ?_; clear ha a; intro a ha
  refine sv ha (r_lss ha n 0 true rfl rfl (decide_eq_true (by omega))) rfl rfl rfl ?_; clear ha a; intro a ha
  refine hK6 _ _ ?_; clear hK6 K5
  refine cond_t ha rfl ?_
  refine wp_seq_k fun K7 hK8 => ?_
  refine region ?_
  refine sv ha (r_assign ha rfl) rfl rfl rfl ?_; clear ha a; intro a ha
  refine hK8 _ _ ?_; clear hK8 K7
  refine wp_ret ?_
  repeat (first | (with_reducible refine t_ret ?_) | (with_reducible refine x_ret ?_))
  exact ret1 ha Tryd.results102 rfl ⟨rfl, hB⟩

theorem c_rpowZ (x n : Int) (w0 : World) :
    Calls Tryd.prog 102 #[ei x, ei n] w0 fun e w' => e = .returned (en (rpowZ x n)) ∧ Below w0.heap.size w0 w' := by
  by_cases h : n < 0
  · refine (c_rpowN x n w0 h).mono fun e w h' => ?_
    rw [rpowZ, if_pos h]; exact h'
  · obtain ⟨m, rfl⟩ := Int.eq_ofNat_of_zero_le (show 0 ≤ n by omega)
    refine (c_rpow x m w0).mono fun e w h' => ?_
    rw [rpowZ, if_neg h]; exact h'

theorem c_two (d : Nat) (w0 : World) (hd : d ≤ 60) :
    Calls Tryd.prog 73 #[en d] w0 fun e w' => e = .returned (en (2 ^ d)) ∧ Below w0.heap.size w0 w' := by
  refine enter (args := [_]) Tryd.func73 rfl Tryd.ntmps73 rfl ?_
  intro a ha
  have hB := Below.refl w0.heap.size w0
  refine wp_seq_k fun K1 hK2 => ?_
  refine region ?_
  refine sv ha (r_assign ha rfl) rfl rfl rfl ?_; clear ha a; intro a ha
  refine hK2 _ _ ?_; clear hK2 K1
  refine wp_seq_k fun K3 hK4 => ?_
  refine region ?_
  refine sv ha (r_assign ha rfl) rfl rfl rfl ?_; clear ha a; intro a ha
  refine hK4 _ _ ?_; clear hK4 K3
  refine wp_seq_k fun K5 hK6 => ?_
  refine wp_seq_k fun K7 hK8 => ?_
  refine region ?_
  refine sv ha (r_assign ha rfl) rfl rfl rfl ?_; clear ha a; intro a ha
  refine hK8 _ _ ?_; clear hK8 K7
  refine wp_block ?_
  refine loopG (fun (i : Nat) a w => (i ≤ d) ∧ Has 13 [(0, en d), (2, .int .i64 0), (4, en i), (3, en (2 ^ i))] a ∧ Below w0.heap.size w0 w) (fun i => d - i) 0 ⟨(by omega), ha.to [0, 2, 4, 3] rfl, hB⟩ ?_
  clear ha a hB
  intro i a w9 ⟨hki, ha, hB⟩
  have hp := Nat.pow_le_pow_right (n := 2) (by decide) (show i ≤ 60 by omega)
  refine wp_seq_k fun K10 hK11 => ?_
  refine wp_seq_k fun K12 hK13 => ?_
  refine region ?_
  refine sv ha (r_move ha rfl) rfl rfl rfl ?_; clear ha a; intro a ha
  refine sv ha (r_move ha rfl) rfl rfl rfl ?_; clear ha a; intro a ha
  refine sv ha (r_lss ha ((i : Nat) : Int) ((d : Nat) : Int) (decide (i < d)) rfl rfl (decide_eq_decide.2 (by omega))) rfl rfl rfl ?_; clear ha a; intro a ha
  refine hK13 _ _ ?_; clear hK13 K12
  refine cond_if ha rfl (fun hc14 => ?_) (fun hc14 => ?_)
  · skip
    replace hc14 := of_decide_eq_true hc14
    refine wp_skip ?_
    refine hK11 _ _ ?_; clear hK11 K10
    refine wp_seq_k fun K15 hK16 => ?_
    refine wp_block ?_
    refine region ?_
    refine sv ha (r_move ha rfl) rfl rfl rfl ?_; clear ha a; intro a ha
    refine sv ha (rn_mul ha (2 ^ i) 2 rfl rfl (by omega)) rfl rfl rfl ?_; clear ha a; intro a ha
    refine sv ha (r_assign ha rfl) rfl rfl rfl ?_; clear ha a; intro a ha
    refine hK16 _ _ ?_; clear hK16 K15
    refine region ?_
    refine sv ha (r_move ha rfl) rfl rfl rfl ?_; clear ha a; intro a ha
    refine sv ha (rn_add ha i 1 rfl rfl (by omega)) rfl rfl rfl ?_; clear ha a; intro a ha
    refine sv ha (r_assign ha rfl) rfl rfl rfl ?_; clear ha a; intro a ha
    exact ⟨i + 1, by omega, (by omega), ha.to [0, 2, 4, 3] rfl, hB⟩
  · skip
    replace hc14 := of_decide_eq_false hc14
    refine wp_exit ?_
    obtain rfl : d = i := by omega
    refine hK6 _ _ ?_; clear hK11 K10 hK6 K5
    refine wp_seq_k fun K17 hK18 => ?_
    refine region ?_
    refine sv ha (r_move ha rfl) rfl rfl rfl ?_; clear ha a; intro a ha
    refine sv ha (r_assign ha rfl) rfl rfl rfl ?_; clear ha a; intro a ha
    refine hK18 _ _ ?_; clear hK18 K17
    refine wp_ret ?_
    repeat (first | (with_reducible refine t_ret ?_) | (with_reducible refine x_ret ?_))
    exact ret1 ha Tryd.results73 rfl ⟨rfl, hB⟩

theorem c_rcomp (d : Nat) (x : Int) (w0 : World) (h1 : 1 ≤ d) (h2 : d ≤ 11) :
    Calls Tryd.prog 45 #[en d, ei x] w0 fun e w' => e = .returned (en (zcomp d x)) ∧ Below w0.heap.size w0 w' := by
  refine enter (args := [_, _]) Tryd.func45 rfl Tryd.ntmps45 rfl ?_
  intro a ha
  have hB := Below.refl w0.heap.size w0
  have hp := Nat.pow_le_pow_right (n := 2) (by decide) (show d + 1 ≤ 12 by omega)
  have hp2 := Nat.pow_le_pow_right (n := 2) (by decide) (show d ≤ 11 by omega)
  have hp3 : 1 ≤ 2 ^ d := Nat.one_le_two_pow
  have hx := zmod_lt x
  have hm := Nat.mul_le_mul (show zmod x ≤ 3328 by omega) hp
  rw [Nat.mul_comm] at hm
  refine wp_seq_k fun K1 hK2 => ?_
  refine region ?_
  refine sv ha (r_assign ha rfl) rfl rfl rfl ?_; clear ha a; intro a ha
  refine hK2 _ _ ?_; clear hK2 K1
  refine wp_seq_k fun K3 hK4 => ?_
  refine wp_seq_k fun K5 hK6 => ?_
  refine region ?_
  refine sv ha (r_move ha rfl) rfl rfl rfl ?_; clear ha a; intro a ha
  refine sv ha (r_lss ha ((d : Nat) : Int) 1 false rfl rfl (decide_eq_false (by omega))) rfl rfl rfl ?_; clear ha a; intro a ha
  refine sv ha (r_move ha rfl) rfl rfl rfl ?_; clear ha a; intro a ha
  refine svg ha (r_move ha rfl) rfl rfl rfl rfl rfl ?_; clear ha a; intro a ha
  refine svg ha (r_gtr ha ((d : Nat) : Int) 11 false rfl rfl (decide_eq_false (by omega))) rfl rfl rfl rfl rfl ?_; clear ha a; intro a ha
  refine sv ha (r_pick ha false rfl rfl) rfl rfl rfl ?_; clear ha a; intro a ha
  refine hK6 _ _ ?_; clear hK6 K5
  refine cond_f ha rfl ?_
  refine wp_skip ?_
  refine hK4 _ _ ?_; clear hK4 K3
  refine wp_seq_k fun K7 hK8 => ?_
  refine region ?_
  refine sv ha (r_move ha rfl) rfl rfl rfl ?_; clear ha a; intro a ha
  refine sv ha (rn_add ha d 1 rfl rfl (by omega)) rfl rfl rfl ?_; clear ha a; intro a ha
  refine sc ha (r_call ha [en (d + 1)] rfl Tryd.call73) rfl rfl rfl (c_two (d + 1) _ (by omega)) ?_
  clear ha a
  rintro e w9 ⟨rfl, hBc⟩
  have hg := grown_call hBc; clear hBc
  replace hB := keepB0 hg hB
  clear hg
  refine ⟨_, rfl, ?_⟩; intro a ha
  refine sv ha (r_move ha rfl) rfl rfl rfl ?_; clear ha a; intro a ha
  refine sc ha (r_call ha [ei x] rfl Tryd.call43) rfl rfl rfl (c_rmod x _ ) ?_
  clear ha a
  rintro e w10 ⟨rfl, hBc⟩
  have hg := grown_call hBc; clear hBc
  replace hB := keepB0 hg hB
  clear hg
  refine ⟨_, rfl, ?_⟩; intro a ha
  refine sv ha (rn_mul ha (2 ^ (d + 1)) (zmod x) rfl rfl (by omega)) rfl rfl rfl ?_; clear ha a; intro a ha
  refine sv ha (rn_add ha ((2 ^ (d + 1)) * (zmod x)) 3329 rfl rfl (by omega)) rfl rfl rfl ?_; clear ha a; intro a ha
  refine sv ha (rn_quo ha (((2 ^ (d + 1)) * (zmod x)) + 3329) 6658 rfl rfl (by omega) (by omega)) rfl rfl rfl ?_; clear ha a; intro a ha
  refine sv ha (r_move ha rfl) rfl rfl rfl ?_; clear ha a; intro a ha
  refine sc ha (r_call ha [en d] rfl Tryd.call73) rfl rfl rfl (c_two d _ (by omega)) ?_
  clear ha a
  rintro e w11 ⟨rfl, hBc⟩
  have hg := grown_call hBc; clear hBc
  replace hB := keepB0 hg hB
  clear hg
  refine ⟨_, rfl, ?_⟩; intro a ha
  refine sv ha (rn_rem ha ((((2 ^ (d + 1)) * (zmod x)) + 3329) / 6658) (2 ^ d) rfl rfl (by omega)) rfl rfl rfl ?_; clear ha a; intro a ha
  refine sv ha (r_assign ha rfl) rfl rfl rfl ?_; clear ha a; intro a ha
  refine hK8 _ _ ?_; clear hK8 K7
  refine wp_ret ?_
  repeat (first | (with_reducible refine t_ret ?_) | (with_reducible refine x_ret ?_))
  exact ret1 ha Tryd.results45 rfl ⟨(congrArg (fun n : Nat => Ending.returned (en n)) (by rw [Nat.mul_comm (2 ^ (d + 1))]; rfl)), hB⟩

theorem c_rcompN (d x : Int) (w0 : World) (hd : d < 1 ∨ 11 < d) :
    Calls Tryd.prog 45 #[ei d, ei x] w0 fun e w' => e = .returned (en 0) ∧ Below w0.heap.size w0 w' := by
  refine enter (args := [_, _]) Tryd.func45 rfl Tryd.ntmps45 rfl ?_
  intro a ha
  have hB := Below.refl w0.heap.size w0
  refine wp_seq_k fun K1 hK2 => ?_
  refine region ?_
  refine sv ha (r_assign ha rfl) rfl rfl rfl ?_; clear ha a; intro a ha
  refine hK2 _ _ ?_; clear hK2 K1
  refine wp_seq_k fun K3 hK4 => ?_
  refine wp_seq_k fun K5 hK6 => ?_
  refine region ?_
  refine sv ha (r_move ha rfl) rfl rfl rfl ?_; clear ha a; intro a ha
  refine sv ha (r_lss ha d 1 (decide (d < 1)) rfl rfl (decide_eq_decide.2 (by omega))) rfl rfl rfl ?_; clear ha a; intro a ha
  refine sv ha (r_move ha rfl) rfl rfl rfl ?_; clear ha a; intro a ha
  cases hq7 : (decide (d < 1))
  all_goals rw [hq7] at ha
  case false =>
    replace hq7 := of_decide_eq_false hq7
    refine svg ha (r_move ha rfl) rfl rfl rfl rfl rfl ?_; clear ha a; intro a ha
    refine svg ha (r_gtr ha d 11 true rfl rfl (decide_eq_true (by omega))) rfl rfl rfl rfl rfl ?_; clear ha a; intro a ha
    refine sv ha (r_pick ha false rfl rfl) rfl rfl rfl ?_; clear ha a; intro a ha
    refine hK6 _ _ ?_; clear hK6 K5
    refine cond_t ha rfl ?_
    refine wp_seq_k fun K8 hK9 => ?_
    refine region ?_
    refine sv ha (r_assign ha rfl) rfl rfl rfl ?_; clear ha a; intro a ha
    refine hK9 _ _ ?_; clear hK9 K8
    refine wp_ret ?_
    repeat (first | (with_reducible refine t_ret ?_) | (with_reducible refine x_ret ?_))
    exact ret1 ha Tryd.results45 rfl ⟨rfl, hB⟩
  case true =>
    replace hq7 := of_decide_eq_true hq7
    refine sno ha rfl rfl rfl rfl rfl rfl ?_; clear ha a; intro a ha
    refine sno ha rfl rfl rfl rfl rfl rfl ?_; clear ha a; intro a ha
    refine sv ha (r_pick ha true rfl rfl) rfl rfl rfl ?_; clear ha a; intro a ha
    refine hK6 _ _ ?_; clear hK6 K5
    refine cond_t ha rfl ?_
    refine wp_seq_k fun K10 hK11 => ?_
    refine region ?_
    refine sv ha (r_assign ha rfl) rfl rfl rfl ?_; clear ha a; intro a ha
    refine hK11 _ _ ?_; clear hK11 K10
    refine wp_ret ?_
    repeat (first | (with_reducible refine t_ret ?_) | (with_reducible refine x_ret ?_))
    exact ret1 ha Tryd.results45 rfl ⟨rfl, hB⟩

theorem c_rcompZ (d x : Int) (w0 : World) :
    Calls Tryd.prog 45 #[ei d, ei x] w0 fun e w' => e = .returned (en (zcompZ d x)) ∧ Below w0.heap.size w0 w' := by
  by_cases h : 1 ≤ d ∧ d ≤ 11
  · obtain ⟨n, rfl⟩ := Int.eq_ofNat_of_zero_le (show 0 ≤ d by omega)
    refine (c_rcomp n x w0 (by omega) (by omega)).mono fun e w h' => ?_
    rw [zcompZ, if_pos h]; exact h'
  · refine (c_rcompN d x w0 (by omega)).mono fun e w h' => ?_
    rw [zcompZ, if_neg h]; exact h'

theorem c_rdec (d : Nat) (x : Int) (w0 : World) (h1 : 1 ≤ d) (h2 : d ≤ 11) :
    Calls Tryd.prog 47 #[en d, ei x] w0 fun e w' => e = .returned (en (zdec d x)) ∧ Below w0.heap.size w0 w' := by
  refine enter (args := [_, _]) Tryd.func47 rfl Tryd.ntmps47 rfl ?_
  intro a ha
  have hB := Below.refl w0.heap.size w0
  have hp := Nat.pow_le_pow_right (n := 2) (by decide) (show d + 1 ≤ 12 by omega)
  have hp2 := Nat.pow_le_pow_right (n := 2) (by decide) (show d ≤ 11 by omega)
  have hp3 : 1 ≤ 2 ^ d := Nat.one_le_two_pow
  have hr0 := Int.emod_nonneg x (show ((2 ^ d : Nat) : Int) ≠ 0 by omega)
  have hr1 := Int.emod_lt_of_pos x (show (0 : Int) < ((2 ^ d : Nat) : Int) by omega)
  have htm := tm_emod x ((2 ^ d : Nat) : Int) (by omega)
  refine wp_seq_k fun K1 hK2 => ?_
  refine region ?_
  refine sv ha (r_assign ha rfl) rfl rfl rfl ?_; clear ha a; intro a ha
  refine hK2 _ _ ?_; clear hK2 K1
  refine wp_seq_k fun K3 hK4 => ?_
  refine wp_seq_k fun K5 hK6 => ?_
  refine region ?_
  refine sv ha (r_move ha rfl) rfl rfl rfl ?_; clear ha a; intro a ha
  refine sv ha (r_lss ha ((d : Nat) : Int) 1 false rfl rfl (decide_eq_false (by omega))) rfl rfl rfl ?_; clear ha a; intro a ha
  refine sv ha (r_move ha rfl) rfl rfl rfl ?_; clear ha a; intro a ha
  refine svg ha (r_move ha rfl) rfl rfl rfl rfl rfl ?_; clear ha a; intro a ha
  refine svg ha (r_gtr ha ((d : Nat) : Int) 11 false rfl rfl (decide_eq_false (by omega))) rfl rfl rfl rfl rfl ?_; clear ha a; intro a ha
  refine sv ha (r_pick ha false rfl rfl) rfl rfl rfl ?_; clear ha a; intro a ha
  refine hK6 _ _ ?_; clear hK6 K5
  refine cond_f ha rfl ?_
  refine wp_skip ?_
  refine hK4 _ _ ?_; clear hK4 K3
  refine wp_seq_k fun K7 hK8 => ?_
  refine region ?_
  refine sv ha (r_move ha rfl) rfl rfl rfl ?_; clear ha a; intro a ha
  refine sv ha (r_move ha rfl) rfl rfl rfl ?_; clear ha a; intro a ha
  refine sc ha (r_call ha [en d] rfl Tryd.call73) rfl rfl rfl (c_two d _ (by omega)) ?_
  clear ha a
  rintro e w9 ⟨rfl, hBc⟩
  have hg := grown_call hBc; clear hBc
  replace hB := keepB0 hg hB
  clear hg
  refine ⟨_, rfl, ?_⟩; intro a ha
  refine sv ha (r_rem ha x ((2 ^ d : Nat) : Int) rfl rfl (by omega)) rfl rfl rfl ?_; clear ha a; intro a ha
  refine sv ha (r_assign ha rfl) rfl rfl rfl ?_; clear ha a; intro a ha
  refine hK8 _ _ ?_; clear hK8 K7
  refine wp_seq_k fun K10 hK11 => ?_
  refine wp_seq_k fun K12 hK13 => ?_
  refine region ?_
  refine sv ha (r_move ha rfl) rfl rfl rfl ?_; clear ha a; intro a ha
  refine sv ha (r_lss ha (x.tmod ((2 ^ d : Nat) : Int)) 0 (decide (x.tmod ((2 ^ d : Nat) : Int) < 0)) rfl rfl (decide_eq_decide.2 (by omega))) rfl rfl rfl ?_; clear ha a; intro a ha
  refine hK13 _ _ ?_; clear hK13 K12
  refine cond_if ha rfl (fun hc14 => ?_) (fun hc14 => ?_)
  · skip
    replace hc14 := of_decide_eq_true hc14
    refine region ?_
    refine sv ha (r_move ha rfl) rfl rfl rfl ?_; clear ha a; intro a ha
    refine sv ha (r_move ha rfl) rfl rfl rfl ?_; clear ha a; intro a ha
    refine sc ha (r_call ha [en d] rfl Tryd.call73) rfl rfl rfl (c_two d _ (by omega)) ?_
    clear ha a
    rintro e w15 ⟨rfl, hBc⟩
    have hg := grown_call hBc; clear hBc
    replace hB := keepB0 hg hB
    clear hg
    refine ⟨_, rfl, ?_⟩; intro a ha
    refine sv ha (n_of (r_add ha (x.tmod ((2 ^ d : Nat) : Int)) ((2 ^ d : Nat) : Int) rfl rfl (by omega)) (k := (x % (2 ^ d : Nat)).toNat) (by omega)) rfl rfl rfl ?_; clear ha a; intro a ha
    refine sv ha (r_assign ha rfl) rfl rfl rfl ?_; clear ha a; intro a ha
    refine hK11 _ _ ?_; clear hK11 K10
    refine wp_seq_k fun K16 hK17 => ?_
    refine region ?_
    refine sv ha (r_move ha rfl) rfl rfl rfl ?_; clear ha a; intro a ha
    refine sv ha (rn_mul ha 6658 ((x % (2 ^ d : Nat)).toNat) rfl rfl (by omega)) rfl rfl rfl ?_; clear ha a; intro a ha
    refine sv ha (r_move ha rfl) rfl rfl rfl ?_; clear ha a; intro a ha
    refine sc ha (r_call ha [en d] rfl Tryd.call73) rfl rfl rfl (c_two d _ (by omega)) ?_
    clear ha a
    rintro e w18 ⟨rfl, hBc⟩
    have hg := grown_call hBc; clear hBc
    replace hB := keepB0 hg hB
    clear hg
    refine ⟨_, rfl, ?_⟩; intro a ha
    refine sv ha (rn_add ha (6658 * ((x % (2 ^ d : Nat)).toNat)) (2 ^ d) rfl rfl (by omega)) rfl rfl rfl ?_; clear ha a; intro a ha
    refine sv ha (r_move ha rfl) rfl rfl rfl ?_; clear ha a; intro a ha
    refine sv ha (rn_add ha d 1 rfl rfl (by omega)) rfl rfl rfl ?_; clear ha a; intro a ha
    refine sc ha (r_call ha [en (d + 1)] rfl Tryd.call73) rfl rfl rfl (c_two (d + 1) _ (by omega)) ?_
    clear ha a
    rintro e w19 ⟨rfl, hBc⟩
    have hg := grown_call hBc; clear hBc
    replace hB := keepB0 hg hB
    clear hg
    refine ⟨_, rfl, ?_⟩; intro a ha
    refine sv ha (rn_quo ha ((6658 * ((x % (2 ^ d : Nat)).toNat)) + (2 ^ d)) (2 ^ (d + 1)) rfl rfl (by omega) (by omega)) rfl rfl rfl ?_; clear ha a; intro a ha
    refine sv ha (r_assign ha rfl) rfl rfl rfl ?_; clear ha a; intro a ha
    refine hK17 _ _ ?_; clear hK17 K16
    refine wp_ret ?_
    repeat (first | (with_reducible refine t_ret ?_) | (with_reducible refine x_ret ?_))
    exact ret1 ha Tryd.results47 rfl ⟨rfl, hB⟩
  · skip
    replace hc14 := of_decide_eq_false hc14
    refine wp_skip ?_
    refine hK11 _ _ ?_; clear hK11 K10
    refine wp_seq_k fun K20 hK21 => ?_
    refine region ?_
    refine sv ha (r_move ha rfl) rfl rfl rfl ?_; clear ha a; intro a ha
    refine sv ha (n_of (r_mul ha 6658 (x.tmod ((2 ^ d : Nat) : Int)) rfl rfl (by omega)) (k := 6658 * (x % (2 ^ d : Nat)).toNat) (by omega)) rfl rfl rfl ?_; clear ha a; intro a ha
    refine sv ha (r_move ha rfl) rfl rfl rfl ?_; clear ha a; intro a ha
    refine sc ha (r_call ha [en d] rfl Tryd.call73) rfl rfl rfl (c_two d _ (by omega)) ?_
    clear ha a
    rintro e w22 ⟨rfl, hBc⟩
    have hg := grown_call hBc; clear hBc
    replace hB := keepB0 hg hB
    clear hg
    refine ⟨_, rfl, ?_⟩; intro a ha
    refine sv ha (rn_add ha (6658 * (x % (2 ^ d : Nat)).toNat) (2 ^ d) rfl rfl (by omega)) rfl rfl rfl ?_; clear ha a; intro a ha
    refine sv ha (r_move ha rfl) rfl rfl rfl ?_; clear ha a; intro a ha
    refine sv ha (rn_add ha d 1 rfl rfl (by omega)) rfl rfl rfl ?_; clear ha a; intro a ha
    refine sc ha (r_call ha [en (d + 1)] rfl Tryd.call73) rfl rfl rfl (c_two (d + 1) _ (by omega)) ?_
    clear ha a
    rintro e w23 ⟨rfl, hBc⟩
    have hg := grown_call hBc; clear hBc
    replace hB := keepB0 hg hB
    clear hg
    refine ⟨_, rfl, ?_⟩; intro a ha
    refine sv ha (rn_quo ha ((6658 * (x % (2 ^ d : Nat)).toNat) + (2 ^ d)) (2 ^ (d + 1)) rfl rfl (by omega) (by omega)) rfl rfl rfl ?_; clear ha a; intro a ha
    refine sv ha (r_assign ha rfl) rfl rfl rfl ?_; clear ha a; intro a ha
    refine hK21 _ _ ?_; clear hK21 K20
    refine wp_ret ?_
    repeat (first | (with_reducible refine t_ret ?_) | (with_reducible refine x_ret ?_))
    exact ret1 ha Tryd.results47 rfl ⟨rfl, hB⟩

theorem c_rdecN (d x : Int) (w0 : World) (hd : d < 1 ∨ 11 < d) :
    Calls Tryd.prog 47 #[ei d, ei x] w0 fun e w' => e = .returned (en 0) ∧ Below w0.heap.size w0 w' := by
  refine enter (args := [_, _]) Tryd.func47 rfl Tryd.ntmps47 rfl ?_
  intro a ha
  have hB := Below.refl w0.heap.size w0
  refine wp_seq_k fun K1 hK2 => ?_
  refine region ?_
  refine sv ha (r_assign ha rfl) rfl rfl rfl ?_; clear ha a; intro a ha
  refine hK2 _ _ ?_; clear hK2 K1
  refine wp_seq_k fun K3 hK4 => ?_
  refine wp_seq_k fun K5 hK6 => ?_
  refine region ?_
  refine sv ha (r_move ha rfl) rfl rfl rfl ?_; clear ha a; intro a ha
  refine sv ha (r_lss ha d 1 (decide (d < 1)) rfl rfl (decide_eq_decide.2 (by omega))) rfl rfl rfl ?_; clear ha a; intro a ha
  refine sv ha (r_move ha rfl) rfl rfl rfl ?_; clear ha a; intro a ha
  cases hq7 : (decide (d < 1))
  all_goals rw [hq7] at ha
  case false =>
    replace hq7 := of_decide_eq_false hq7
    refine svg ha (r_move ha rfl) rfl rfl rfl rfl rfl ?_; clear ha a; intro a ha
    refine svg ha (r_gtr ha d 11 true rfl rfl (decide_eq_true (by omega))) rfl rfl rfl rfl rfl ?_; clear ha a; intro a ha
    refine sv ha (r_pick ha false rfl rfl) rfl rfl rfl ?_; clear ha a; intro a ha
    refine hK6 _ _ ?_; clear hK6 K5
    refine cond_t ha rfl ?_
    refine wp_seq_k fun K8 hK9 => ?_
    refine region ?_
    refine sv ha (r_assign ha rfl) rfl rfl rfl ?_; clear ha a; intro a ha
    refine hK9 _ _ ?_; clear hK9 K8
    refine wp_ret ?_
    repeat (first | (with_reducible refine t_ret ?_) | (with_reducible refine x_ret ?_))
    exact ret1 ha Tryd.results47 rfl ⟨rfl, hB⟩
  case true =>
    replace hq7 := of_decide_eq_true hq7
    refine sno ha rfl rfl rfl rfl rfl rfl ?_; clear ha a; intro a ha
    refine sno ha rfl rfl rfl rfl rfl rfl ?_; clear ha a; intro a ha
    refine sv ha (r_pick ha true rfl rfl) rfl rfl rfl ?_; clear ha a; intro a ha
    refine hK6 _ _ ?_; clear hK6 K5
    refine cond_t ha rfl ?_
    refine wp_seq_k fun K10 hK11 => ?_
    refine region ?_
    refine sv ha (r_assign ha rfl) rfl rfl rfl ?_; clear ha a; intro a ha
    refine hK11 _ _ ?_; clear hK11 K10
    refine wp_ret ?_
    repeat (first | (with_reducible refine t_ret ?_) | (with_reducible refine x_ret ?_))
    exact ret1 ha Tryd.results47 rfl ⟨rfl, hB⟩

theorem c_rdecZ (d x : Int) (w0 : World) :
    Calls Tryd.prog 47 #[ei d, ei x] w0 fun e w' => e = .returned (en (zdecZ d x)) ∧ Below w0.heap.size w0 w' := by
  by_cases h : 1 ≤ d ∧ d ≤ 11
  · obtain ⟨n, rfl⟩ := Int.eq_ofNat_of_zero_le (show 0 ≤ d by omega)
    refine (c_rdec n x w0 (by omega) (by omega)).mono fun e w h' => ?_
    rw [zdecZ, if_pos h]; exact h'
  · refine (c_rdecN d x w0 (by omega)).mono fun e w h' => ?_
    rw [zdecZ, if_neg h]; exact h'

theorem c_turned (i : Int) (w0 : World) :
    Calls Tryd.prog 103 #[ei i] w0 fun e w' => e = .returned (en (turned i)) ∧ Below w0.heap.size w0 w' := by
  refine enter (args := [_]) Tryd.func103 rfl Tryd.ntmps103 rfl ?_
  intro a ha
  have hB := Below.refl w0.heap.size w0
  refine wp_seq_k fun K1 hK2 => ?_
  refine region ?_
  refine sv ha (r_assign ha rfl) rfl rfl rfl ?_; clear ha a; intro a ha
  refine hK2 _ _ ?_; clear hK2 K1
  refine wp_seq_k fun K3 hK4 => ?_
  refine region ?_
  refine sv ha (r_move ha rfl) rfl rfl rfl ?_; clear ha a; intro a ha
  refine sv ha (r_mask ha i 7 (by omega) (m := 127) rfl rfl rfl) rfl rfl rfl ?_; clear ha a; intro a ha
  refine sv ha (r_assign ha rfl) rfl rfl rfl ?_; clear ha a; intro a ha
  refine hK4 _ _ ?_; clear hK4 K3
  refine wp_seq_k fun K5 hK6 => ?_
  refine region ?_
  refine sv ha (r_assign ha rfl) rfl rfl rfl ?_; clear ha a; intro a ha
  refine hK6 _ _ ?_; clear hK6 K5
  refine wp_seq_k fun K7 hK8 => ?_
  refine wp_seq_k fun K9 hK10 => ?_
  refine region ?_
  refine sv ha (r_assign ha rfl) rfl rfl rfl ?_; clear ha a; intro a ha
  refine hK10 _ _ ?_; clear hK10 K9
  refine wp_block ?_
  refine loopG (fun (j : Nat) a w => (j ≤ 7) ∧ Has 19 [(2, .int .i64 0), (5, ei i), (6, en ((i % (2 ^ 7 : Nat)).toNat)), (4, en j), (0, en (tu0 i j)), (3, en (tuN i j))] a ∧ Below w0.heap.size w0 w) (fun j => 7 - j) 0 ⟨(by omega), ha.to [2, 5, 6, 4, 0, 3] rfl, hB⟩ ?_
  clear ha a hB
  intro j a w11 ⟨hkj, ha, hB⟩
  have htl := tuN_le i j
  have hp := Nat.pow_le_pow_right (n := 2) (by decide) (show j ≤ 7 by omega)
  have htu := tu0_le i j
  refine wp_seq_k fun K12 hK13 => ?_
  refine wp_seq_k fun K14 hK15 => ?_
  refine region ?_
  refine sv ha (r_move ha rfl) rfl rfl rfl ?_; clear ha a; intro a ha
  refine sv ha (r_lss ha ((j : Nat) : Int) 7 (decide (j < 7)) rfl rfl (decide_eq_decide.2 (by omega))) rfl rfl rfl ?_; clear ha a; intro a ha
  refine hK15 _ _ ?_; clear hK15 K14
  refine cond_if ha rfl (fun hc16 => ?_) (fun hc16 => ?_)
  · skip
    replace hc16 := of_decide_eq_true hc16
    refine wp_skip ?_
    refine hK13 _ _ ?_; clear hK13 K12
    refine wp_seq_k fun K17 hK18 => ?_
    refine wp_block ?_
    refine wp_seq_k fun K19 hK20 => ?_
    refine region ?_
    refine sv ha (r_move ha rfl) rfl rfl rfl ?_; clear ha a; intro a ha
    refine sv ha (rn_mul ha (tuN i j) 2 rfl rfl (by omega)) rfl rfl rfl ?_; clear ha a; intro a ha
    refine sv ha (r_move ha rfl) rfl rfl rfl ?_; clear ha a; intro a ha
    refine sv ha (rn_rem ha (tu0 i j) 2 rfl rfl (by omega)) rfl rfl rfl ?_; clear ha a; intro a ha
    refine sv ha (rn_add ha ((tuN i j) * 2) ((tu0 i j) % 2) rfl rfl (by omega)) rfl rfl rfl ?_; clear ha a; intro a ha
    refine sv ha (r_assign ha rfl) rfl rfl rfl ?_; clear ha a; intro a ha
    refine hK20 _ _ ?_; clear hK20 K19
    refine region ?_
    refine sv ha (r_move ha rfl) rfl rfl rfl ?_; clear ha a; intro a ha
    refine sv ha (rn_quo ha (tu0 i j) 2 rfl rfl (by omega) (by omega)) rfl rfl rfl ?_; clear ha a; intro a ha
    refine sv ha (r_assign ha rfl) rfl rfl rfl ?_; clear ha a; intro a ha
    refine hK18 _ _ ?_; clear hK18 K17
    refine region ?_
    refine sv ha (r_move ha rfl) rfl rfl rfl ?_; clear ha a; intro a ha
    refine sv ha (rn_add ha j 1 rfl rfl (by omega)) rfl rfl rfl ?_; clear ha a; intro a ha
    refine sv ha (r_assign ha rfl) rfl rfl rfl ?_; clear ha a; intro a ha
    exact ⟨j + 1, by omega, (by omega), ha.to [2, 5, 6, 4, 0, 3] rfl, hB⟩
  · skip
    replace hc16 := of_decide_eq_false hc16
    refine wp_exit ?_
    obtain rfl : j = 7 := by omega
    refine hK8 _ _ ?_; clear hK13 K12 hK8 K7
    refine wp_seq_k fun K21 hK22 => ?_
    refine region ?_
    refine sv ha (r_move ha rfl) rfl rfl rfl ?_; clear ha a; intro a ha
    refine sv ha (r_assign ha rfl) rfl rfl rfl ?_; clear ha a; intro a ha
    refine hK22 _ _ ?_; clear hK22 K21
    refine wp_ret ?_
    repeat (first | (with_reducible refine t_ret ?_) | (with_reducible refine x_ret ?_))
    exact ret1 ha Tryd.results103 rfl ⟨rfl, hB⟩
end Go.Proofs.YtaignhikdfpbbaaDoor
