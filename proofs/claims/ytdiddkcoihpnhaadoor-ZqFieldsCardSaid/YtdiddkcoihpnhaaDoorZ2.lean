/- WALKS written by gen.py (own program) out of specs. -/
import Derived.Test.YtdiddkcoihpnhaaDoorZ1
namespace Go.Proofs.YtdiddkcoihpnhaaDoor
open Go.RowKit Go.Rx
set_option maxRecDepth 100000
set_option maxHeartbeats 4000000
set_option linter.unusedVariables false

theorem law_ZqRests (x y : Int) (w0 : World) (hG : Glob w0) :
    Calls Tryd.prog 3 #[ei x, ei y] w0 fun e w' => e = .returned (.bool true) ∧ Below w0.heap.size w0 w' := by
  refine enter (args := [_, _]) Tryd.func3 rfl Tryd.ntmps3 rfl ?_
  intro a ha
  have hB := Below.refl w0.heap.size w0
  have hza := zmod_lt x
  have hzb := zmod_lt y
  have hzp := zprod_le x y
  refine wp_seq_k fun K1 hK2 => ?_
  refine region ?_
  refine sv ha (r_assign ha rfl) rfl rfl rfl ?_; clear ha a; intro a ha
  refine hK2 _ _ ?_; clear hK2 K1
  refine wp_seq_k fun K3 hK4 => ?_
  refine region ?_
  refine sc ha (r_call ha [] rfl Tryd.call18) rfl rfl rfl (c_awake  _ (glob_keep hG hB)) ?_
  clear ha a
  rintro e w5 ⟨rfl, hBc⟩
  have hg := grown_call hBc; clear hBc
  replace hB := keepB0 hg hB
  clear hg
  refine ⟨_, rfl, ?_⟩; intro a ha
  refine sv ha (r_assign ha rfl) rfl rfl rfl ?_; clear ha a; intro a ha
  refine hK4 _ _ ?_; clear hK4 K3
  refine wp_seq_k fun K6 hK7 => ?_
  refine wp_seq_k fun K8 hK9 => ?_
  refine region ?_
  refine sv ha (r_move ha rfl) rfl rfl rfl ?_; clear ha a; intro a ha
  refine sv ha (r_not ha true false rfl rfl) rfl rfl rfl ?_; clear ha a; intro a ha
  refine hK9 _ _ ?_; clear hK9 K8
  refine cond_f ha rfl ?_
  refine wp_skip ?_
  refine hK7 _ _ ?_; clear hK7 K6
  refine wp_seq_k fun K10 hK11 => ?_
  refine region ?_
  refine sv ha (r_move ha rfl) rfl rfl rfl ?_; clear ha a; intro a ha
  refine sc ha (r_call ha [ei x] rfl Tryd.call19) rfl rfl rfl (c_rmod x _ ) ?_
  clear ha a
  rintro e w12 ⟨rfl, hBc⟩
  have hg := grown_call hBc; clear hBc
  replace hB := keepB0 hg hB
  clear hg
  refine ⟨_, rfl, ?_⟩; intro a ha
  refine sv ha (r_assign ha rfl) rfl rfl rfl ?_; clear ha a; intro a ha
  refine hK11 _ _ ?_; clear hK11 K10
  refine wp_seq_k fun K13 hK14 => ?_
  refine region ?_
  refine sv ha (r_move ha rfl) rfl rfl rfl ?_; clear ha a; intro a ha
  refine sc ha (r_call ha [ei y] rfl Tryd.call19) rfl rfl rfl (c_rmod y _ ) ?_
  clear ha a
  rintro e w15 ⟨rfl, hBc⟩
  have hg := grown_call hBc; clear hBc
  replace hB := keepB0 hg hB
  clear hg
  refine ⟨_, rfl, ?_⟩; intro a ha
  refine sv ha (r_assign ha rfl) rfl rfl rfl ?_; clear ha a; intro a ha
  refine hK14 _ _ ?_; clear hK14 K13
  refine wp_seq_k fun K16 hK17 => ?_
  refine region ?_
  refine sv ha (r_move ha rfl) rfl rfl rfl ?_; clear ha a; intro a ha
  refine sc ha (r_call ha [ei x] rfl Tryd.call20) rfl rfl rfl (c_mod x _ ) ?_
  clear ha a
  rintro e w18 ⟨rfl, hBc⟩
  have hg := grown_call hBc; clear hBc
  replace hB := keepB0 hg hB
  clear hg
  refine ⟨_, rfl, ?_⟩; intro a ha
  refine sv ha (r_move ha rfl) rfl rfl rfl ?_; clear ha a; intro a ha
  refine sv ha (r_eql ha ((zmod x : Nat) : Int) ((zmod x : Nat) : Int) true rfl rfl (decide_eq_true rfl)) rfl rfl rfl ?_; clear ha a; intro a ha
  refine sv ha (r_move ha rfl) rfl rfl rfl ?_; clear ha a; intro a ha
  refine svg ha (r_move ha rfl) rfl rfl rfl rfl rfl ?_; clear ha a; intro a ha
  refine svg ha (r_move ha rfl) rfl rfl rfl rfl rfl ?_; clear ha a; intro a ha
  refine scg ha (r_call ha [ei x, ei y] rfl Tryd.call21) rfl rfl rfl rfl rfl (c_add x y _ ) ?_
  clear ha a
  rintro e w19 ⟨rfl, hBc⟩
  have hg := grown_call hBc; clear hBc
  replace hB := keepB0 hg hB
  clear hg
  refine ⟨_, rfl, ?_⟩; intro a ha
  refine svg ha (r_move ha rfl) rfl rfl rfl rfl rfl ?_; clear ha a; intro a ha
  refine svg ha (r_move ha rfl) rfl rfl rfl rfl rfl ?_; clear ha a; intro a ha
  refine svg ha (rn_add ha (zmod x) (zmod y) rfl rfl (by omega)) rfl rfl rfl rfl rfl ?_; clear ha a; intro a ha
  refine svg ha (rn_rem ha ((zmod x) + (zmod y)) 3329 rfl rfl (by omega)) rfl rfl rfl rfl rfl ?_; clear ha a; intro a ha
  refine svg ha (r_eql ha ((zadd x y : Nat) : Int) ((((zmod x) + (zmod y)) % 3329 : Nat) : Int) true rfl rfl (decide_eq_true (by rw [zadd_eq]))) rfl rfl rfl rfl rfl ?_; clear ha a; intro a ha
  refine sv ha (r_pick ha true rfl rfl) rfl rfl rfl ?_; clear ha a; intro a ha
  refine sv ha (r_move ha rfl) rfl rfl rfl ?_; clear ha a; intro a ha
  refine svg ha (r_move ha rfl) rfl rfl rfl rfl rfl ?_; clear ha a; intro a ha
  refine svg ha (r_move ha rfl) rfl rfl rfl rfl rfl ?_; clear ha a; intro a ha
  refine scg ha (r_call ha [ei x, ei y] rfl Tryd.call22) rfl rfl rfl rfl rfl (c_sub x y _ ) ?_
  clear ha a
  rintro e w20 ⟨rfl, hBc⟩
  have hg := grown_call hBc; clear hBc
  replace hB := keepB0 hg hB
  clear hg
  refine ⟨_, rfl, ?_⟩; intro a ha
  refine svg ha (r_move ha rfl) rfl rfl rfl rfl rfl ?_; clear ha a; intro a ha
  refine svg ha (rn_add ha (zmod x) 3329 rfl rfl (by omega)) rfl rfl rfl rfl rfl ?_; clear ha a; intro a ha
  refine svg ha (r_move ha rfl) rfl rfl rfl rfl rfl ?_; clear ha a; intro a ha
  refine svg ha (rn_sub ha ((zmod x) + 3329) (zmod y) rfl rfl (by omega) (by omega)) rfl rfl rfl rfl rfl ?_; clear ha a; intro a ha
  refine svg ha (rn_rem ha (((zmod x) + 3329) - (zmod y)) 3329 rfl rfl (by omega)) rfl rfl rfl rfl rfl ?_; clear ha a; intro a ha
  refine svg ha (r_eql ha ((zsub x y : Nat) : Int) (((((zmod x) + 3329) - (zmod y)) % 3329 : Nat) : Int) true rfl rfl (decide_eq_true (by rw [zsub_eq]))) rfl rfl rfl rfl rfl ?_; clear ha a; intro a ha
  refine sv ha (r_pick ha true rfl rfl) rfl rfl rfl ?_; clear ha a; intro a ha
  refine sv ha (r_move ha rfl) rfl rfl rfl ?_; clear ha a; intro a ha
  refine svg ha (r_move ha rfl) rfl rfl rfl rfl rfl ?_; clear ha a; intro a ha
  refine svg ha (r_move ha rfl) rfl rfl rfl rfl rfl ?_; clear ha a; intro a ha
  refine scg ha (r_call ha [ei x, ei y] rfl Tryd.call23) rfl rfl rfl rfl rfl (c_mul x y _ ) ?_
  clear ha a
  rintro e w21 ⟨rfl, hBc⟩
  have hg := grown_call hBc; clear hBc
  replace hB := keepB0 hg hB
  clear hg
  refine ⟨_, rfl, ?_⟩; intro a ha
  refine svg ha (r_move ha rfl) rfl rfl rfl rfl rfl ?_; clear ha a; intro a ha
  refine svg ha (r_move ha rfl) rfl rfl rfl rfl rfl ?_; clear ha a; intro a ha
  refine svg ha (rn_mul ha (zmod x) (zmod y) rfl rfl (by omega)) rfl rfl rfl rfl rfl ?_; clear ha a; intro a ha
  refine svg ha (rn_rem ha ((zmod x) * (zmod y)) 3329 rfl rfl (by omega)) rfl rfl rfl rfl rfl ?_; clear ha a; intro a ha
  refine svg ha (r_eql ha ((zmul x y : Nat) : Int) ((((zmod x) * (zmod y)) % 3329 : Nat) : Int) true rfl rfl (decide_eq_true rfl)) rfl rfl rfl rfl rfl ?_; clear ha a; intro a ha
  refine sv ha (r_pick ha true rfl rfl) rfl rfl rfl ?_; clear ha a; intro a ha
  refine sv ha (r_assign ha rfl) rfl rfl rfl ?_; clear ha a; intro a ha
  refine hK17 _ _ ?_; clear hK17 K16
  refine wp_ret ?_
  repeat (first | (with_reducible refine t_ret ?_) | (with_reducible refine x_ret ?_))
  exact ret1 ha Tryd.results3 rfl ⟨rfl, hB⟩

theorem law_ZqPowers (x n : Int) (w0 : World) (hG : Glob w0) :
    Calls Tryd.prog 4 #[ei x, ei n] w0 fun e w' => e = .returned (.bool true) ∧ Below w0.heap.size w0 w' := by
  refine enter (args := [_, _]) Tryd.func4 rfl Tryd.ntmps4 rfl ?_
  intro a ha
  have hB := Below.refl w0.heap.size w0
  refine wp_seq_k fun K1 hK2 => ?_
  refine region ?_
  refine sv ha (r_assign ha rfl) rfl rfl rfl ?_; clear ha a; intro a ha
  refine hK2 _ _ ?_; clear hK2 K1
  refine wp_seq_k fun K3 hK4 => ?_
  refine region ?_
  refine sc ha (r_call ha [] rfl Tryd.call18) rfl rfl rfl (c_awake  _ (glob_keep hG hB)) ?_
  clear ha a
  rintro e w5 ⟨rfl, hBc⟩
  have hg := grown_call hBc; clear hBc
  replace hB := keepB0 hg hB
  clear hg
  refine ⟨_, rfl, ?_⟩; intro a ha
  refine sv ha (r_assign ha rfl) rfl rfl rfl ?_; clear ha a; intro a ha
  refine hK4 _ _ ?_; clear hK4 K3
  refine wp_seq_k fun K6 hK7 => ?_
  refine region ?_
  refine sv ha (r_move ha rfl) rfl rfl rfl ?_; clear ha a; intro a ha
  refine sv ha (r_move ha rfl) rfl rfl rfl ?_; clear ha a; intro a ha
  refine svg ha (r_move ha rfl) rfl rfl rfl rfl rfl ?_; clear ha a; intro a ha
  refine svg ha (r_move ha rfl) rfl rfl rfl rfl rfl ?_; clear ha a; intro a ha
  refine scg ha (r_call ha [ei x, ei n] rfl Tryd.call24) rfl rfl rfl rfl rfl (c_powZ x n _ ) ?_
  clear ha a
  rintro e w8 ⟨rfl, hBc⟩
  have hg := grown_call hBc; clear hBc
  replace hB := keepB0 hg hB
  clear hg
  refine ⟨_, rfl, ?_⟩; intro a ha
  refine svg ha (r_move ha rfl) rfl rfl rfl rfl rfl ?_; clear ha a; intro a ha
  refine svg ha (r_move ha rfl) rfl rfl rfl rfl rfl ?_; clear ha a; intro a ha
  refine scg ha (r_call ha [ei x, ei n] rfl Tryd.call25) rfl rfl rfl rfl rfl (c_rpowZ x n _ ) ?_
  clear ha a
  rintro e w9 ⟨rfl, hBc⟩
  have hg := grown_call hBc; clear hBc
  replace hB := keepB0 hg hB
  clear hg
  refine ⟨_, rfl, ?_⟩; intro a ha
  refine svg ha (r_eql ha ((zpowZ x n : Nat) : Int) ((rpowZ x n : Nat) : Int) true rfl rfl (decide_eq_true (by rw [powZ_eq]))) rfl rfl rfl rfl rfl ?_; clear ha a; intro a ha
  refine sv ha (r_pick ha true rfl rfl) rfl rfl rfl ?_; clear ha a; intro a ha
  refine sv ha (r_assign ha rfl) rfl rfl rfl ?_; clear ha a; intro a ha
  refine hK7 _ _ ?_; clear hK7 K6
  refine wp_ret ?_
  repeat (first | (with_reducible refine t_ret ?_) | (with_reducible refine x_ret ?_))
  exact ret1 ha Tryd.results4 rfl ⟨rfl, hB⟩

theorem law_ZqBarrett (x : UInt32) (w0 : World) (hG : Glob w0) :
    Calls Tryd.prog 5 #[e32 x] w0 fun e w' => e = .returned (.bool true) ∧ Below w0.heap.size w0 w' := by
  refine enter (args := [_]) Tryd.func5 rfl Tryd.ntmps5 rfl ?_
  intro a ha
  have hB := Below.refl w0.heap.size w0
  refine wp_seq_k fun K1 hK2 => ?_
  refine region ?_
  refine sv ha (r_assign ha rfl) rfl rfl rfl ?_; clear ha a; intro a ha
  refine hK2 _ _ ?_; clear hK2 K1
  refine wp_seq_k fun K3 hK4 => ?_
  refine region ?_
  refine sc ha (r_call ha [] rfl Tryd.call18) rfl rfl rfl (c_awake  _ (glob_keep hG hB)) ?_
  clear ha a
  rintro e w5 ⟨rfl, hBc⟩
  have hg := grown_call hBc; clear hBc
  replace hB := keepB0 hg hB
  clear hg
  refine ⟨_, rfl, ?_⟩; intro a ha
  refine sv ha (r_assign ha rfl) rfl rfl rfl ?_; clear ha a; intro a ha
  refine hK4 _ _ ?_; clear hK4 K3
  refine wp_seq_k fun K6 hK7 => ?_
  refine region ?_
  refine sv ha (r_move ha rfl) rfl rfl rfl ?_; clear ha a; intro a ha
  refine sv ha (r_move ha rfl) rfl rfl rfl ?_; clear ha a; intro a ha
  refine svg ha (r_move ha rfl) rfl rfl rfl rfl rfl ?_; clear ha a; intro a ha
  refine scg ha (r_call ha [e32 x] rfl Tryd.call26) rfl rfl rfl rfl rfl (c_barrett x _ ) ?_
  clear ha a
  rintro e w8 ⟨rfl, hBc⟩
  have hg := grown_call hBc; clear hBc
  replace hB := keepB0 hg hB
  clear hg
  refine ⟨_, rfl, ?_⟩; intro a ha
  refine svg ha (r_move ha rfl) rfl rfl rfl rfl rfl ?_; clear ha a; intro a ha
  refine svg ha (rw_rem ha x (3329 : UInt32) rfl rfl (by decide)) rfl rfl rfl rfl rfl ?_; clear ha a; intro a ha
  refine svg ha (r_conv_u32_i64 ha (x % (3329 : UInt32)) Tryd.runUnderlying26 Tryd.runUnderlying3 rfl) rfl rfl rfl rfl rfl ?_; clear ha a; intro a ha
  refine svg ha (r_eql ha ((x.toNat % 3329 : Nat) : Int) (((x % (3329 : UInt32)).toNat : Nat) : Int) true rfl rfl (decide_eq_true (by rw [UInt32.toNat_mod]; rfl))) rfl rfl rfl rfl rfl ?_; clear ha a; intro a ha
  refine sv ha (r_pick ha true rfl rfl) rfl rfl rfl ?_; clear ha a; intro a ha
  refine sv ha (r_assign ha rfl) rfl rfl rfl ?_; clear ha a; intro a ha
  refine hK7 _ _ ?_; clear hK7 K6
  refine wp_ret ?_
  repeat (first | (with_reducible refine t_ret ?_) | (with_reducible refine x_ret ?_))
  exact ret1 ha Tryd.results5 rfl ⟨rfl, hB⟩

theorem law_ZqMontgomery (x : UInt32) (w0 : World) (hG : Glob w0) :
    Calls Tryd.prog 6 #[e32 x] w0 fun e w' => e = .returned (.bool true) ∧ Below w0.heap.size w0 w' := by
  refine enter (args := [_]) Tryd.func6 rfl Tryd.ntmps6 rfl ?_
  intro a ha
  have hB := Below.refl w0.heap.size w0
  have hx := lt32 x
  refine wp_seq_k fun K1 hK2 => ?_
  refine region ?_
  refine sv ha (r_assign ha rfl) rfl rfl rfl ?_; clear ha a; intro a ha
  refine hK2 _ _ ?_; clear hK2 K1
  refine wp_seq_k fun K3 hK4 => ?_
  refine region ?_
  refine sc ha (r_call ha [] rfl Tryd.call18) rfl rfl rfl (c_awake  _ (glob_keep hG hB)) ?_
  clear ha a
  rintro e w5 ⟨rfl, hBc⟩
  have hg := grown_call hBc; clear hBc
  replace hB := keepB0 hg hB
  clear hg
  refine ⟨_, rfl, ?_⟩; intro a ha
  refine sv ha (r_assign ha rfl) rfl rfl rfl ?_; clear ha a; intro a ha
  refine hK4 _ _ ?_; clear hK4 K3
  refine wp_seq_k fun K6 hK7 => ?_
  refine region ?_
  refine sv ha (r_move ha rfl) rfl rfl rfl ?_; clear ha a; intro a ha
  refine sc ha (r_call ha [e32 x] rfl Tryd.call27) rfl rfl rfl (c_mont x _ ) ?_
  clear ha a
  rintro e w8 ⟨rfl, hBc⟩
  have hg := grown_call hBc; clear hBc
  replace hB := keepB0 hg hB
  clear hg
  refine ⟨_, rfl, ?_⟩; intro a ha
  refine sv ha (r_assign ha rfl) rfl rfl rfl ?_; clear ha a; intro a ha
  refine hK7 _ _ ?_; clear hK7 K6
  refine wp_seq_k fun K9 hK10 => ?_
  refine region ?_
  refine sv ha (r_move ha rfl) rfl rfl rfl ?_; clear ha a; intro a ha
  refine sv ha (r_move ha rfl) rfl rfl rfl ?_; clear ha a; intro a ha
  refine svg ha (r_move ha rfl) rfl rfl rfl rfl rfl ?_; clear ha a; intro a ha
  refine svg ha (r_move ha rfl) rfl rfl rfl rfl rfl ?_; clear ha a; intro a ha
  refine scg ha (r_call ha [e32 x] rfl Tryd.call28) rfl rfl rfl rfl rfl (c_rmont x _ ) ?_
  clear ha a
  rintro e w11 ⟨rfl, hBc⟩
  have hg := grown_call hBc; clear hBc
  replace hB := keepB0 hg hB
  clear hg
  refine ⟨_, rfl, ?_⟩; intro a ha
  refine svg ha (r_eql ha ((x.toNat * 169 % 3329 : Nat) : Int) ((x.toNat * 169 % 3329 : Nat) : Int) true rfl rfl (decide_eq_true rfl)) rfl rfl rfl rfl rfl ?_; clear ha a; intro a ha
  refine sv ha (r_pick ha true rfl rfl) rfl rfl rfl ?_; clear ha a; intro a ha
  refine sv ha (r_move ha rfl) rfl rfl rfl ?_; clear ha a; intro a ha
  refine svg ha (r_move ha rfl) rfl rfl rfl rfl rfl ?_; clear ha a; intro a ha
  refine svg ha (r_geq ha ((x.toNat * 169 % 3329 : Nat) : Int) 0 true rfl rfl (decide_eq_true (by omega))) rfl rfl rfl rfl rfl ?_; clear ha a; intro a ha
  refine sv ha (r_pick ha true rfl rfl) rfl rfl rfl ?_; clear ha a; intro a ha
  refine sv ha (r_move ha rfl) rfl rfl rfl ?_; clear ha a; intro a ha
  refine svg ha (r_move ha rfl) rfl rfl rfl rfl rfl ?_; clear ha a; intro a ha
  refine svg ha (r_lss ha ((x.toNat * 169 % 3329 : Nat) : Int) 3329 true rfl rfl (decide_eq_true (by omega))) rfl rfl rfl rfl rfl ?_; clear ha a; intro a ha
  refine sv ha (r_pick ha true rfl rfl) rfl rfl rfl ?_; clear ha a; intro a ha
  refine sv ha (r_move ha rfl) rfl rfl rfl ?_; clear ha a; intro a ha
  refine svg ha (r_move ha rfl) rfl rfl rfl rfl rfl ?_; clear ha a; intro a ha
  refine svg ha (r_conv_n_u64 ha (x.toNat * 169 % 3329) Tryd.runUnderlying3 Tryd.runUnderlying29 rfl (by omega)) rfl rfl rfl rfl rfl ?_; clear ha a; intro a ha
  refine svg ha (rx_mul ha (x.toNat * 169 % 3329) 65536 rfl rfl (by omega)) rfl rfl rfl rfl rfl ?_; clear ha a; intro a ha
  refine svg ha (rx_rem ha ((x.toNat * 169 % 3329) * 65536) 3329 rfl rfl (by omega)) rfl rfl rfl rfl rfl ?_; clear ha a; intro a ha
  refine svg ha (r_move ha rfl) rfl rfl rfl rfl rfl ?_; clear ha a; intro a ha
  refine svg ha (r_conv_u32_n ha x Tryd.runUnderlying26 Tryd.runUnderlying29 rfl) rfl rfl rfl rfl rfl ?_; clear ha a; intro a ha
  refine svg ha (rx_rem ha x.toNat 3329 rfl rfl (by omega)) rfl rfl rfl rfl rfl ?_; clear ha a; intro a ha
  refine svg ha (r_eql ha ((((x.toNat * 169 % 3329) * 65536) % 3329 : Nat) : Int) ((x.toNat % 3329 : Nat) : Int) true rfl rfl (decide_eq_true (by have := mont_back x.toNat; omega))) rfl rfl rfl rfl rfl ?_; clear ha a; intro a ha
  refine sv ha (r_pick ha true rfl rfl) rfl rfl rfl ?_; clear ha a; intro a ha
  refine sv ha (r_assign ha rfl) rfl rfl rfl ?_; clear ha a; intro a ha
  refine hK10 _ _ ?_; clear hK10 K9
  refine wp_ret ?_
  repeat (first | (with_reducible refine t_ret ?_) | (with_reducible refine x_ret ?_))
  exact ret1 ha Tryd.results6 rfl ⟨rfl, hB⟩

theorem law_ZqCompresses (d x : Int) (w0 : World) (hG : Glob w0) :
    Calls Tryd.prog 7 #[ei d, ei x] w0 fun e w' => e = .returned (.bool true) ∧ Below w0.heap.size w0 w' := by
  refine enter (args := [_, _]) Tryd.func7 rfl Tryd.ntmps7 rfl ?_
  intro a ha
  have hB := Below.refl w0.heap.size w0
  refine wp_seq_k fun K1 hK2 => ?_
  refine region ?_
  refine sv ha (r_assign ha rfl) rfl rfl rfl ?_; clear ha a; intro a ha
  refine hK2 _ _ ?_; clear hK2 K1
  refine wp_seq_k fun K3 hK4 => ?_
  refine region ?_
  refine sc ha (r_call ha [] rfl Tryd.call18) rfl rfl rfl (c_awake  _ (glob_keep hG hB)) ?_
  clear ha a
  rintro e w5 ⟨rfl, hBc⟩
  have hg := grown_call hBc; clear hBc
  replace hB := keepB0 hg hB
  clear hg
  refine ⟨_, rfl, ?_⟩; intro a ha
  refine sv ha (r_assign ha rfl) rfl rfl rfl ?_; clear ha a; intro a ha
  refine hK4 _ _ ?_; clear hK4 K3
  refine wp_seq_k fun K6 hK7 => ?_
  refine region ?_
  refine sv ha (r_move ha rfl) rfl rfl rfl ?_; clear ha a; intro a ha
  refine sv ha (r_move ha rfl) rfl rfl rfl ?_; clear ha a; intro a ha
  refine svg ha (r_move ha rfl) rfl rfl rfl rfl rfl ?_; clear ha a; intro a ha
  refine svg ha (r_move ha rfl) rfl rfl rfl rfl rfl ?_; clear ha a; intro a ha
  refine scg ha (r_call ha [ei d, ei x] rfl Tryd.call29) rfl rfl rfl rfl rfl (c_compZ d x _ ) ?_
  clear ha a
  rintro e w8 ⟨rfl, hBc⟩
  have hg := grown_call hBc; clear hBc
  replace hB := keepB0 hg hB
  clear hg
  refine ⟨_, rfl, ?_⟩; intro a ha
  refine svg ha (r_move ha rfl) rfl rfl rfl rfl rfl ?_; clear ha a; intro a ha
  refine svg ha (r_move ha rfl) rfl rfl rfl rfl rfl ?_; clear ha a; intro a ha
  refine scg ha (r_call ha [ei d, ei x] rfl Tryd.call30) rfl rfl rfl rfl rfl (c_rcompZ d x _ ) ?_
  clear ha a
  rintro e w9 ⟨rfl, hBc⟩
  have hg := grown_call hBc; clear hBc
  replace hB := keepB0 hg hB
  clear hg
  refine ⟨_, rfl, ?_⟩; intro a ha
  refine svg ha (r_eql ha ((zcompZ d x : Nat) : Int) ((zcompZ d x : Nat) : Int) true rfl rfl (decide_eq_true rfl)) rfl rfl rfl rfl rfl ?_; clear ha a; intro a ha
  refine sv ha (r_pick ha true rfl rfl) rfl rfl rfl ?_; clear ha a; intro a ha
  refine sv ha (r_assign ha rfl) rfl rfl rfl ?_; clear ha a; intro a ha
  refine hK7 _ _ ?_; clear hK7 K6
  refine wp_ret ?_
  repeat (first | (with_reducible refine t_ret ?_) | (with_reducible refine x_ret ?_))
  exact ret1 ha Tryd.results7 rfl ⟨rfl, hB⟩

theorem law_ZqZetas (i : Int) (w0 : World) (hG : Glob w0) :
    Calls Tryd.prog 9 #[ei i] w0 fun e w' => e = .returned (.bool true) ∧ Below w0.heap.size w0 w' := by
  refine enter (args := [_]) Tryd.func9 rfl Tryd.ntmps9 rfl ?_
  intro a ha
  have hB := Below.refl w0.heap.size w0
  refine wp_seq_k fun K1 hK2 => ?_
  refine region ?_
  refine sv ha (r_assign ha rfl) rfl rfl rfl ?_; clear ha a; intro a ha
  refine hK2 _ _ ?_; clear hK2 K1
  refine wp_seq_k fun K3 hK4 => ?_
  refine region ?_
  refine sc ha (r_call ha [] rfl Tryd.call18) rfl rfl rfl (c_awake  _ (glob_keep hG hB)) ?_
  clear ha a
  rintro e w5 ⟨rfl, hBc⟩
  have hg := grown_call hBc; clear hBc
  replace hB := keepB0 hg hB
  clear hg
  refine ⟨_, rfl, ?_⟩; intro a ha
  refine sv ha (r_assign ha rfl) rfl rfl rfl ?_; clear ha a; intro a ha
  refine hK4 _ _ ?_; clear hK4 K3
  refine wp_seq_k fun K6 hK7 => ?_
  refine region ?_
  refine sv ha (r_move ha rfl) rfl rfl rfl ?_; clear ha a; intro a ha
  refine sv ha (r_move ha rfl) rfl rfl rfl ?_; clear ha a; intro a ha
  refine svg ha (r_move ha rfl) rfl rfl rfl rfl rfl ?_; clear ha a; intro a ha
  refine scg ha (r_call ha [ei i] rfl Tryd.call33) rfl rfl rfl rfl rfl (c_zeta i _ (glob_keep hG hB)) ?_
  clear ha a
  rintro e w8 ⟨rfl, hBc⟩
  have hg := grown_call hBc; clear hBc
  replace hB := keepB0 hg hB
  clear hg
  refine ⟨_, rfl, ?_⟩; intro a ha
  refine svg ha (r_move ha rfl) rfl rfl rfl rfl rfl ?_; clear ha a; intro a ha
  refine scg ha (r_call ha [ei i] rfl Tryd.call34) rfl rfl rfl rfl rfl (c_rzeta i _ ) ?_
  clear ha a
  rintro e w9 ⟨rfl, hBc⟩
  have hg := grown_call hBc; clear hBc
  replace hB := keepB0 hg hB
  clear hg
  refine ⟨_, rfl, ?_⟩; intro a ha
  refine svg ha (r_eql ha ((zz i 7 : Nat) : Int) ((rpow 17 (turned i) : Nat) : Int) true rfl rfl (decide_eq_true (by rw [zeta_eq]))) rfl rfl rfl rfl rfl ?_; clear ha a; intro a ha
  refine sv ha (r_pick ha true rfl rfl) rfl rfl rfl ?_; clear ha a; intro a ha
  refine sv ha (r_assign ha rfl) rfl rfl rfl ?_; clear ha a; intro a ha
  refine hK7 _ _ ?_; clear hK7 K6
  refine wp_ret ?_
  repeat (first | (with_reducible refine t_ret ?_) | (with_reducible refine x_ret ?_))
  exact ret1 ha Tryd.results9 rfl ⟨rfl, hB⟩

theorem law_ZqSpreadsA (d : Nat) (x : Int) (w0 : World) (h1 : 1 ≤ d) (h2 : d ≤ 11) (hG : Glob w0) :
    Calls Tryd.prog 8 #[en d, ei x] w0 fun e w' => e = .returned (.bool true) ∧ Below w0.heap.size w0 w' := by
  refine enter (args := [_, _]) Tryd.func8 rfl Tryd.ntmps8 rfl ?_
  intro a ha
  have hB := Below.refl w0.heap.size w0
  have hsp := spread_eq d x h1 h2
  have hp := Nat.pow_le_pow_right (n := 2) (by decide) (show d ≤ 11 by omega)
  have hp3 : 1 ≤ 2 ^ d := Nat.one_le_two_pow
  refine wp_seq_k fun K1 hK2 => ?_
  refine region ?_
  refine sv ha (r_assign ha rfl) rfl rfl rfl ?_; clear ha a; intro a ha
  refine hK2 _ _ ?_; clear hK2 K1
  refine wp_seq_k fun K3 hK4 => ?_
  refine region ?_
  refine sc ha (r_call ha [] rfl Tryd.call18) rfl rfl rfl (c_awake  _ (glob_keep hG hB)) ?_
  clear ha a
  rintro e w5 ⟨rfl, hBc⟩
  have hg := grown_call hBc; clear hBc
  replace hB := keepB0 hg hB
  clear hg
  refine ⟨_, rfl, ?_⟩; intro a ha
  refine sv ha (r_assign ha rfl) rfl rfl rfl ?_; clear ha a; intro a ha
  refine hK4 _ _ ?_; clear hK4 K3
  refine wp_seq_k fun K6 hK7 => ?_
  refine wp_seq_k fun K8 hK9 => ?_
  refine region ?_
  refine sv ha (r_move ha rfl) rfl rfl rfl ?_; clear ha a; intro a ha
  refine sv ha (r_not ha true false rfl rfl) rfl rfl rfl ?_; clear ha a; intro a ha
  refine hK9 _ _ ?_; clear hK9 K8
  refine cond_f ha rfl ?_
  refine wp_skip ?_
  refine hK7 _ _ ?_; clear hK7 K6
  refine wp_seq_k fun K10 hK11 => ?_
  refine region ?_
  refine sv ha (r_move ha rfl) rfl rfl rfl ?_; clear ha a; intro a ha
  refine sv ha (r_move ha rfl) rfl rfl rfl ?_; clear ha a; intro a ha
  refine sc ha (r_call ha [en d, ei x] rfl Tryd.call31) rfl rfl rfl (c_dec d x _ (by omega) (by omega)) ?_
  clear ha a
  rintro e w12 ⟨rfl, hBc⟩
  have hg := grown_call hBc; clear hBc
  replace hB := keepB0 hg hB
  clear hg
  refine ⟨_, rfl, ?_⟩; intro a ha
  refine sv ha (r_assign ha rfl) rfl rfl rfl ?_; clear ha a; intro a ha
  refine hK11 _ _ ?_; clear hK11 K10
  refine wp_seq_k fun K13 hK14 => ?_
  refine wp_seq_k fun K15 hK16 => ?_
  refine region ?_
  refine sv ha (r_move ha rfl) rfl rfl rfl ?_; clear ha a; intro a ha
  refine sv ha (r_lss ha ((d : Nat) : Int) 1 false rfl rfl (decide_eq_false (by omega))) rfl rfl rfl ?_; clear ha a; intro a ha
  refine sv ha (r_move ha rfl) rfl rfl rfl ?_; clear ha a; intro a ha
  refine svg ha (r_move ha rfl) rfl rfl rfl rfl rfl ?_; clear ha a; intro a ha
  refine svg ha (r_gtr ha ((d : Nat) : Int) 11 false rfl rfl (decide_eq_false (by omega))) rfl rfl rfl rfl rfl ?_; clear ha a; intro a ha
  refine sv ha (r_pick ha false rfl rfl) rfl rfl rfl ?_; clear ha a; intro a ha
  refine hK16 _ _ ?_; clear hK16 K15
  refine cond_f ha rfl ?_
  refine wp_skip ?_
  refine hK14 _ _ ?_; clear hK14 K13
  refine wp_seq_k fun K17 hK18 => ?_
  refine region ?_
  refine sv ha (r_move ha rfl) rfl rfl rfl ?_; clear ha a; intro a ha
  refine sv ha (r_move ha rfl) rfl rfl rfl ?_; clear ha a; intro a ha
  refine sv ha (r_move ha rfl) rfl rfl rfl ?_; clear ha a; intro a ha
  refine sc ha (r_call ha [en d, ei x] rfl Tryd.call32) rfl rfl rfl (c_rdec d x _ (by omega) (by omega)) ?_
  clear ha a
  rintro e w19 ⟨rfl, hBc⟩
  have hg := grown_call hBc; clear hBc
  replace hB := keepB0 hg hB
  clear hg
  refine ⟨_, rfl, ?_⟩; intro a ha
  refine sv ha (r_eql ha ((zdec d x : Nat) : Int) ((zdec d x : Nat) : Int) true rfl rfl (decide_eq_true rfl)) rfl rfl rfl ?_; clear ha a; intro a ha
  refine sv ha (r_move ha rfl) rfl rfl rfl ?_; clear ha a; intro a ha
  refine svg ha (r_move ha rfl) rfl rfl rfl rfl rfl ?_; clear ha a; intro a ha
  refine svg ha (r_geq ha ((zdec d x : Nat) : Int) 0 true rfl rfl (decide_eq_true (by omega))) rfl rfl rfl rfl rfl ?_; clear ha a; intro a ha
  refine sv ha (r_pick ha true rfl rfl) rfl rfl rfl ?_; clear ha a; intro a ha
  refine sv ha (r_move ha rfl) rfl rfl rfl ?_; clear ha a; intro a ha
  refine svg ha (r_move ha rfl) rfl rfl rfl rfl rfl ?_; clear ha a; intro a ha
  refine svg ha (r_lss ha ((zdec d x : Nat) : Int) 3329 true rfl rfl (decide_eq_true (by omega))) rfl rfl rfl rfl rfl ?_; clear ha a; intro a ha
  refine sv ha (r_pick ha true rfl rfl) rfl rfl rfl ?_; clear ha a; intro a ha
  refine sv ha (r_move ha rfl) rfl rfl rfl ?_; clear ha a; intro a ha
  refine svg ha (r_move ha rfl) rfl rfl rfl rfl rfl ?_; clear ha a; intro a ha
  refine svg ha (r_move ha rfl) rfl rfl rfl rfl rfl ?_; clear ha a; intro a ha
  refine scg ha (r_call ha [en d, ei ((zdec d x : Nat) : Int)] rfl Tryd.call29) rfl rfl rfl rfl rfl (c_comp d ((zdec d x : Nat) : Int) _ (by omega) (by omega)) ?_
  clear ha a
  rintro e w20 ⟨rfl, hBc⟩
  have hg := grown_call hBc; clear hBc
  replace hB := keepB0 hg hB
  clear hg
  refine ⟨_, rfl, ?_⟩; intro a ha
  refine svg ha (r_move ha rfl) rfl rfl rfl rfl rfl ?_; clear ha a; intro a ha
  refine svg ha (r_move ha rfl) rfl rfl rfl rfl rfl ?_; clear ha a; intro a ha
  refine svg ha (r_conv_n_u64 ha d Tryd.runUnderlying3 Tryd.runUnderlying30 rfl (by omega)) rfl rfl rfl rfl rfl ?_; clear ha a; intro a ha
  refine svg ha (rn_shl ha 1 d rfl rfl (by omega) (by omega)) rfl rfl rfl rfl rfl ?_; clear ha a; intro a ha
  refine svg ha (rn_sub ha (1 * 2 ^ d) 1 rfl rfl (by omega) (by omega)) rfl rfl rfl rfl rfl ?_; clear ha a; intro a ha
  refine svg ha (r_mask ha x d (by omega) (m := (1 * 2 ^ d) - 1) (by omega) rfl rfl) rfl rfl rfl rfl rfl ?_; clear ha a; intro a ha
  refine svg ha (r_eql ha ((zcomp d ((zdec d x : Nat) : Int) : Nat) : Int) (((x % (2 ^ d : Nat)).toNat : Nat) : Int) true rfl rfl (decide_eq_true (by rw [hsp.1]))) rfl rfl rfl rfl rfl ?_; clear ha a; intro a ha
  refine sv ha (r_pick ha true rfl rfl) rfl rfl rfl ?_; clear ha a; intro a ha
  refine sv ha (r_assign ha rfl) rfl rfl rfl ?_; clear ha a; intro a ha
  refine hK18 _ _ ?_; clear hK18 K17
  refine wp_ret ?_
  repeat (first | (with_reducible refine t_ret ?_) | (with_reducible refine x_ret ?_))
  exact ret1 ha Tryd.results8 rfl ⟨rfl, hB⟩

theorem law_ZqSpreadsB (d x : Int) (w0 : World) (hd : d < 1 ∨ 11 < d) (hG : Glob w0) :
    Calls Tryd.prog 8 #[ei d, ei x] w0 fun e w' => e = .returned (.bool true) ∧ Below w0.heap.size w0 w' := by
  refine enter (args := [_, _]) Tryd.func8 rfl Tryd.ntmps8 rfl ?_
  intro a ha
  have hB := Below.refl w0.heap.size w0
  refine wp_seq_k fun K1 hK2 => ?_
  refine region ?_
  refine sv ha (r_assign ha rfl) rfl rfl rfl ?_; clear ha a; intro a ha
  refine hK2 _ _ ?_; clear hK2 K1
  refine wp_seq_k fun K3 hK4 => ?_
  refine region ?_
  refine sc ha (r_call ha [] rfl Tryd.call18) rfl rfl rfl (c_awake  _ (glob_keep hG hB)) ?_
  clear ha a
  rintro e w5 ⟨rfl, hBc⟩
  have hg := grown_call hBc; clear hBc
  replace hB := keepB0 hg hB
  clear hg
  refine ⟨_, rfl, ?_⟩; intro a ha
  refine sv ha (r_assign ha rfl) rfl rfl rfl ?_; clear ha a; intro a ha
  refine hK4 _ _ ?_; clear hK4 K3
  refine wp_seq_k fun K6 hK7 => ?_
  refine wp_seq_k fun K8 hK9 => ?_
  refine region ?_
  refine sv ha (r_move ha rfl) rfl rfl rfl ?_; clear ha a; intro a ha
  refine sv ha (r_not ha true false rfl rfl) rfl rfl rfl ?_; clear ha a; intro a ha
  refine hK9 _ _ ?_; clear hK9 K8
  refine cond_f ha rfl ?_
  refine wp_skip ?_
  refine hK7 _ _ ?_; clear hK7 K6
  refine wp_seq_k fun K10 hK11 => ?_
  refine region ?_
  refine sv ha (r_move ha rfl) rfl rfl rfl ?_; clear ha a; intro a ha
  refine sv ha (r_move ha rfl) rfl rfl rfl ?_; clear ha a; intro a ha
  refine sc ha (r_call ha [ei d, ei x] rfl Tryd.call31) rfl rfl rfl (c_decN d x _ (by omega)) ?_
  clear ha a
  rintro e w12 ⟨rfl, hBc⟩
  have hg := grown_call hBc; clear hBc
  replace hB := keepB0 hg hB
  clear hg
  refine ⟨_, rfl, ?_⟩; intro a ha
  refine sv ha (r_assign ha rfl) rfl rfl rfl ?_; clear ha a; intro a ha
  refine hK11 _ _ ?_; clear hK11 K10
  refine wp_seq_k fun K13 hK14 => ?_
  refine wp_seq_k fun K15 hK16 => ?_
  refine region ?_
  refine sv ha (r_move ha rfl) rfl rfl rfl ?_; clear ha a; intro a ha
  refine sv ha (r_lss ha d 1 (decide (d < 1)) rfl rfl (decide_eq_decide.2 (by omega))) rfl rfl rfl ?_; clear ha a; intro a ha
  refine sv ha (r_move ha rfl) rfl rfl rfl ?_; clear ha a; intro a ha
  cases hq17 : (decide (d < 1))
  all_goals rw [hq17] at ha
  case false =>
    replace hq17 := of_decide_eq_false hq17
    refine svg ha (r_move ha rfl) rfl rfl rfl rfl rfl ?_; clear ha a; intro a ha
    refine svg ha (r_gtr ha d 11 true rfl rfl (decide_eq_true (by omega))) rfl rfl rfl rfl rfl ?_; clear ha a; intro a ha
    refine sv ha (r_pick ha false rfl rfl) rfl rfl rfl ?_; clear ha a; intro a ha
    refine hK16 _ _ ?_; clear hK16 K15
    refine cond_t ha rfl ?_
    refine wp_seq_k fun K18 hK19 => ?_
    refine region ?_
    refine sv ha (r_move ha rfl) rfl rfl rfl ?_; clear ha a; intro a ha
    refine sv ha (r_eql ha ((0 : Nat) : Int) 0 true rfl rfl (decide_eq_true rfl)) rfl rfl rfl ?_; clear ha a; intro a ha
    refine sv ha (r_assign ha rfl) rfl rfl rfl ?_; clear ha a; intro a ha
    refine hK19 _ _ ?_; clear hK19 K18
    refine wp_ret ?_
    repeat (first | (with_reducible refine t_ret ?_) | (with_reducible refine x_ret ?_))
    exact ret1 ha Tryd.results8 rfl ⟨rfl, hB⟩
  case true =>
    replace hq17 := of_decide_eq_true hq17
    refine sno ha rfl rfl rfl rfl rfl rfl ?_; clear ha a; intro a ha
    refine sno ha rfl rfl rfl rfl rfl rfl ?_; clear ha a; intro a ha
    refine sv ha (r_pick ha true rfl rfl) rfl rfl rfl ?_; clear ha a; intro a ha
    refine hK16 _ _ ?_; clear hK16 K15
    refine cond_t ha rfl ?_
    refine wp_seq_k fun K20 hK21 => ?_
    refine region ?_
    refine sv ha (r_move ha rfl) rfl rfl rfl ?_; clear ha a; intro a ha
    refine sv ha (r_eql ha ((0 : Nat) : Int) 0 true rfl rfl (decide_eq_true rfl)) rfl rfl rfl ?_; clear ha a; intro a ha
    refine sv ha (r_assign ha rfl) rfl rfl rfl ?_; clear ha a; intro a ha
    refine hK21 _ _ ?_; clear hK21 K20
    refine wp_ret ?_
    repeat (first | (with_reducible refine t_ret ?_) | (with_reducible refine x_ret ?_))
    exact ret1 ha Tryd.results8 rfl ⟨rfl, hB⟩

theorem law_ZqSpreads (d x : Int) (w0 : World) (hG : Glob w0) :
    Calls Tryd.prog 8 #[ei d, ei x] w0 fun e w' => e = .returned (.bool true) ∧ Below w0.heap.size w0 w' := by
  by_cases h : 1 ≤ d ∧ d ≤ 11
  · obtain ⟨n, rfl⟩ := Int.eq_ofNat_of_zero_le (show 0 ≤ d by omega)
    exact law_ZqSpreadsA n x w0 (by omega) (by omega) hG
  · exact law_ZqSpreadsB d x w0 (by omega) hG

theorem law_ZqFields (x y z : Int) (w0 : World) (hG : Glob w0) :
    Calls Tryd.prog 10 #[ei x, ei y, ei z] w0 fun e w' => e = .returned (.bool true) ∧ Below w0.heap.size w0 w' := by
  refine enter (args := [_, _, _]) Tryd.func10 rfl Tryd.ntmps10 rfl ?_
  intro a ha
  have hB := Below.refl w0.heap.size w0
  refine wp_seq_k fun K1 hK2 => ?_
  refine region ?_
  refine sv ha (r_assign ha rfl) rfl rfl rfl ?_; clear ha a; intro a ha
  refine hK2 _ _ ?_; clear hK2 K1
  refine wp_seq_k fun K3 hK4 => ?_
  refine region ?_
  refine sc ha (r_call ha [] rfl Tryd.call18) rfl rfl rfl (c_awake  _ (glob_keep hG hB)) ?_
  clear ha a
  rintro e w5 ⟨rfl, hBc⟩
  have hg := grown_call hBc; clear hBc
  replace hB := keepB0 hg hB
  clear hg
  refine ⟨_, rfl, ?_⟩; intro a ha
  refine sv ha (r_assign ha rfl) rfl rfl rfl ?_; clear ha a; intro a ha
  refine hK4 _ _ ?_; clear hK4 K3
  refine wp_seq_k fun K6 hK7 => ?_
  refine wp_seq_k fun K8 hK9 => ?_
  refine region ?_
  refine sv ha (r_move ha rfl) rfl rfl rfl ?_; clear ha a; intro a ha
  refine sv ha (r_not ha true false rfl rfl) rfl rfl rfl ?_; clear ha a; intro a ha
  refine hK9 _ _ ?_; clear hK9 K8
  refine cond_f ha rfl ?_
  refine wp_skip ?_
  refine hK7 _ _ ?_; clear hK7 K6
  refine wp_seq_k fun K10 hK11 => ?_
  refine region ?_
  refine sv ha (r_move ha rfl) rfl rfl rfl ?_; clear ha a; intro a ha
  refine sv ha (r_move ha rfl) rfl rfl rfl ?_; clear ha a; intro a ha
  refine sc ha (r_call ha [ei x, en 3327] rfl Tryd.call24) rfl rfl rfl (c_pow x 3327 _ ) ?_
  clear ha a
  rintro e w12 ⟨rfl, hBc⟩
  have hg := grown_call hBc; clear hBc
  replace hB := keepB0 hg hB
  clear hg
  refine ⟨_, rfl, ?_⟩; intro a ha
  refine sc ha (r_call ha [ei x, ei ((zpow x 3327 : Nat) : Int)] rfl Tryd.call23) rfl rfl rfl (c_mul x ((zpow x 3327 : Nat) : Int) _ ) ?_
  clear ha a
  rintro e w13 ⟨rfl, hBc⟩
  have hg := grown_call hBc; clear hBc
  replace hB := keepB0 hg hB
  clear hg
  refine ⟨_, rfl, ?_⟩; intro a ha
  refine sv ha (r_assign ha rfl) rfl rfl rfl ?_; clear ha a; intro a ha
  refine hK11 _ _ ?_; clear hK11 K10
  refine wp_seq_k fun K14 hK15 => ?_
  refine wp_seq_k fun K16 hK17 => ?_
  refine region ?_
  refine sv ha (r_move ha rfl) rfl rfl rfl ?_; clear ha a; intro a ha
  refine sc ha (r_call ha [ei x] rfl Tryd.call20) rfl rfl rfl (c_mod x _ ) ?_
  clear ha a
  rintro e w18 ⟨rfl, hBc⟩
  have hg := grown_call hBc; clear hBc
  replace hB := keepB0 hg hB
  clear hg
  refine ⟨_, rfl, ?_⟩; intro a ha
  refine sv ha (r_eql ha ((zmod x : Nat) : Int) 0 (decide (zmod x = 0)) rfl rfl (decide_eq_decide.2 (by omega))) rfl rfl rfl ?_; clear ha a; intro a ha
  refine sv ha (r_move ha rfl) rfl rfl rfl ?_; clear ha a; intro a ha
  cases hq19 : (decide (zmod x = 0))
  all_goals rw [hq19] at ha
  case false =>
    replace hq19 := of_decide_eq_false hq19
    refine sno ha rfl rfl rfl rfl rfl rfl ?_; clear ha a; intro a ha
    refine sno ha rfl rfl rfl rfl rfl rfl ?_; clear ha a; intro a ha
    refine sv ha (r_pick ha false rfl rfl) rfl rfl rfl ?_; clear ha a; intro a ha
    refine sv ha (r_move ha rfl) rfl rfl rfl ?_; clear ha a; intro a ha
    refine svg ha (r_move ha rfl) rfl rfl rfl rfl rfl ?_; clear ha a; intro a ha
    refine scg ha (r_call ha [ei x] rfl Tryd.call20) rfl rfl rfl rfl rfl (c_mod x _ ) ?_
    clear ha a
    rintro e w20 ⟨rfl, hBc⟩
    have hg := grown_call hBc; clear hBc
    replace hB := keepB0 hg hB
    clear hg
    refine ⟨_, rfl, ?_⟩; intro a ha
    refine svg ha (r_neq ha ((zmod x : Nat) : Int) 0 (decide (zmod x ≠ 0)) rfl rfl (decide_eq_decide.2 (by omega))) rfl rfl rfl rfl rfl ?_; clear ha a; intro a ha
    refine svg ha (r_move ha rfl) rfl rfl rfl rfl rfl ?_; clear ha a; intro a ha
    cases hq21 : (decide (zmod x ≠ 0))
    all_goals rw [hq21] at ha
    case false =>
      replace hq21 := of_decide_eq_false hq21
      refine sno ha rfl rfl rfl rfl rfl rfl ?_; clear ha a; intro a ha
      refine sno ha rfl rfl rfl rfl rfl rfl ?_; clear ha a; intro a ha
      refine svg ha (r_pick ha false rfl rfl) rfl rfl rfl rfl rfl ?_; clear ha a; intro a ha
      refine sv ha (r_pick ha false rfl rfl) rfl rfl rfl ?_; clear ha a; intro a ha
      refine hK17 _ _ ?_; clear hK17 K16
      refine cond_f ha rfl ?_
      refine wp_skip ?_
      refine hK15 _ _ ?_; clear hK15 K14
      refine wp_seq_k fun K22 hK23 => ?_
      refine region ?_
      refine sv ha (r_move ha rfl) rfl rfl rfl ?_; clear ha a; intro a ha
      refine sv ha (r_move ha rfl) rfl rfl rfl ?_; clear ha a; intro a ha
      refine sc ha (r_call ha [ei x, ei y] rfl Tryd.call21) rfl rfl rfl (c_add x y _ ) ?_
      clear ha a
      rintro e w24 ⟨rfl, hBc⟩
      have hg := grown_call hBc; clear hBc
      replace hB := keepB0 hg hB
      clear hg
      refine ⟨_, rfl, ?_⟩; intro a ha
      refine sv ha (r_move ha rfl) rfl rfl rfl ?_; clear ha a; intro a ha
      refine sc ha (r_call ha [ei ((zadd x y : Nat) : Int), ei z] rfl Tryd.call21) rfl rfl rfl (c_add ((zadd x y : Nat) : Int) z _ ) ?_
      clear ha a
      rintro e w25 ⟨rfl, hBc⟩
      have hg := grown_call hBc; clear hBc
      replace hB := keepB0 hg hB
      clear hg
      refine ⟨_, rfl, ?_⟩; intro a ha
      refine sv ha (r_move ha rfl) rfl rfl rfl ?_; clear ha a; intro a ha
      refine sv ha (r_move ha rfl) rfl rfl rfl ?_; clear ha a; intro a ha
      refine sv ha (r_move ha rfl) rfl rfl rfl ?_; clear ha a; intro a ha
      refine sc ha (r_call ha [ei y, ei z] rfl Tryd.call21) rfl rfl rfl (c_add y z _ ) ?_
      clear ha a
      rintro e w26 ⟨rfl, hBc⟩
      have hg := grown_call hBc; clear hBc
      replace hB := keepB0 hg hB
      clear hg
      refine ⟨_, rfl, ?_⟩; intro a ha
      refine sc ha (r_call ha [ei x, ei ((zadd y z : Nat) : Int)] rfl Tryd.call21) rfl rfl rfl (c_add x ((zadd y z : Nat) : Int) _ ) ?_
      clear ha a
      rintro e w27 ⟨rfl, hBc⟩
      have hg := grown_call hBc; clear hBc
      replace hB := keepB0 hg hB
      clear hg
      refine ⟨_, rfl, ?_⟩; intro a ha
      refine sv ha (r_eql ha ((zadd ((zadd x y : Nat) : Int) z : Nat) : Int) ((zadd x ((zadd y z : Nat) : Int) : Nat) : Int) true rfl rfl (decide_eq_true (by rw [add_assoc_z]))) rfl rfl rfl ?_; clear ha a; intro a ha
      refine sv ha (r_move ha rfl) rfl rfl rfl ?_; clear ha a; intro a ha
      refine svg ha (r_move ha rfl) rfl rfl rfl rfl rfl ?_; clear ha a; intro a ha
      refine svg ha (r_move ha rfl) rfl rfl rfl rfl rfl ?_; clear ha a; intro a ha
      refine scg ha (r_call ha [ei x, ei y] rfl Tryd.call23) rfl rfl rfl rfl rfl (c_mul x y _ ) ?_
      clear ha a
      rintro e w28 ⟨rfl, hBc⟩
      have hg := grown_call hBc; clear hBc
      replace hB := keepB0 hg hB
      clear hg
      refine ⟨_, rfl, ?_⟩; intro a ha
      refine svg ha (r_move ha rfl) rfl rfl rfl rfl rfl ?_; clear ha a; intro a ha
      refine scg ha (r_call ha [ei ((zmul x y : Nat) : Int), ei z] rfl Tryd.call23) rfl rfl rfl rfl rfl (c_mul ((zmul x y : Nat) : Int) z _ ) ?_
      clear ha a
      rintro e w29 ⟨rfl, hBc⟩
      have hg := grown_call hBc; clear hBc
      replace hB := keepB0 hg hB
      clear hg
      refine ⟨_, rfl, ?_⟩; intro a ha
      refine svg ha (r_move ha rfl) rfl rfl rfl rfl rfl ?_; clear ha a; intro a ha
      refine svg ha (r_move ha rfl) rfl rfl rfl rfl rfl ?_; clear ha a; intro a ha
      refine svg ha (r_move ha rfl) rfl rfl rfl rfl rfl ?_; clear ha a; intro a ha
      refine scg ha (r_call ha [ei y, ei z] rfl Tryd.call23) rfl rfl rfl rfl rfl (c_mul y z _ ) ?_
      clear ha a
      rintro e w30 ⟨rfl, hBc⟩
      have hg := grown_call hBc; clear hBc
      replace hB := keepB0 hg hB
      clear hg
      refine ⟨_, rfl, ?_⟩; intro a ha
      refine scg ha (r_call ha [ei x, ei ((zmul y z : Nat) : Int)] rfl Tryd.call23) rfl rfl rfl rfl rfl (c_mul x ((zmul y z : Nat) : Int) _ ) ?_
      clear ha a
      rintro e w31 ⟨rfl, hBc⟩
      have hg := grown_call hBc; clear hBc
      replace hB := keepB0 hg hB
      clear hg
      refine ⟨_, rfl, ?_⟩; intro a ha
      refine svg ha (r_eql ha ((zmul ((zmul x y : Nat) : Int) z : Nat) : Int) ((zmul x ((zmul y z : Nat) : Int) : Nat) : Int) true rfl rfl (decide_eq_true (by rw [mul_assoc_z]))) rfl rfl rfl rfl rfl ?_; clear ha a; intro a ha
      refine sv ha (r_pick ha true rfl rfl) rfl rfl rfl ?_; clear ha a; intro a ha
      refine sv ha (r_assign ha rfl) rfl rfl rfl ?_; clear ha a; intro a ha
      refine hK23 _ _ ?_; clear hK23 K22
      refine wp_seq_k fun K32 hK33 => ?_
      refine region ?_
      refine sv ha (r_move ha rfl) rfl rfl rfl ?_; clear ha a; intro a ha
      refine sv ha (r_move ha rfl) rfl rfl rfl ?_; clear ha a; intro a ha
      refine svg ha (r_move ha rfl) rfl rfl rfl rfl rfl ?_; clear ha a; intro a ha
      refine svg ha (r_move ha rfl) rfl rfl rfl rfl rfl ?_; clear ha a; intro a ha
      refine svg ha (r_move ha rfl) rfl rfl rfl rfl rfl ?_; clear ha a; intro a ha
      refine scg ha (r_call ha [ei y, ei z] rfl Tryd.call21) rfl rfl rfl rfl rfl (c_add y z _ ) ?_
      clear ha a
      rintro e w34 ⟨rfl, hBc⟩
      have hg := grown_call hBc; clear hBc
      replace hB := keepB0 hg hB
      clear hg
      refine ⟨_, rfl, ?_⟩; intro a ha
      refine scg ha (r_call ha [ei x, ei ((zadd y z : Nat) : Int)] rfl Tryd.call23) rfl rfl rfl rfl rfl (c_mul x ((zadd y z : Nat) : Int) _ ) ?_
      clear ha a
      rintro e w35 ⟨rfl, hBc⟩
      have hg := grown_call hBc; clear hBc
      replace hB := keepB0 hg hB
      clear hg
      refine ⟨_, rfl, ?_⟩; intro a ha
      refine svg ha (r_move ha rfl) rfl rfl rfl rfl rfl ?_; clear ha a; intro a ha
      refine svg ha (r_move ha rfl) rfl rfl rfl rfl rfl ?_; clear ha a; intro a ha
      refine scg ha (r_call ha [ei x, ei y] rfl Tryd.call23) rfl rfl rfl rfl rfl (c_mul x y _ ) ?_
      clear ha a
      rintro e w36 ⟨rfl, hBc⟩
      have hg := grown_call hBc; clear hBc
      replace hB := keepB0 hg hB
      clear hg
      refine ⟨_, rfl, ?_⟩; intro a ha
      refine svg ha (r_move ha rfl) rfl rfl rfl rfl rfl ?_; clear ha a; intro a ha
      refine svg ha (r_move ha rfl) rfl rfl rfl rfl rfl ?_; clear ha a; intro a ha
      refine scg ha (r_call ha [ei x, ei z] rfl Tryd.call23) rfl rfl rfl rfl rfl (c_mul x z _ ) ?_
      clear ha a
      rintro e w37 ⟨rfl, hBc⟩
      have hg := grown_call hBc; clear hBc
      replace hB := keepB0 hg hB
      clear hg
      refine ⟨_, rfl, ?_⟩; intro a ha
      refine scg ha (r_call ha [ei ((zmul x y : Nat) : Int), ei ((zmul x z : Nat) : Int)] rfl Tryd.call21) rfl rfl rfl rfl rfl (c_add ((zmul x y : Nat) : Int) ((zmul x z : Nat) : Int) _ ) ?_
      clear ha a
      rintro e w38 ⟨rfl, hBc⟩
      have hg := grown_call hBc; clear hBc
      replace hB := keepB0 hg hB
      clear hg
      refine ⟨_, rfl, ?_⟩; intro a ha
      refine svg ha (r_eql ha ((zmul x ((zadd y z : Nat) : Int) : Nat) : Int) ((zadd ((zmul x y : Nat) : Int) ((zmul x z : Nat) : Int) : Nat) : Int) true rfl rfl (decide_eq_true (by rw [dist_z]))) rfl rfl rfl rfl rfl ?_; clear ha a; intro a ha
      refine sv ha (r_pick ha true rfl rfl) rfl rfl rfl ?_; clear ha a; intro a ha
      refine sv ha (r_move ha rfl) rfl rfl rfl ?_; clear ha a; intro a ha
      refine svg ha (r_move ha rfl) rfl rfl rfl rfl rfl ?_; clear ha a; intro a ha
      refine svg ha (r_move ha rfl) rfl rfl rfl rfl rfl ?_; clear ha a; intro a ha
      refine scg ha (r_call ha [ei x, ei y] rfl Tryd.call22) rfl rfl rfl rfl rfl (c_sub x y _ ) ?_
      clear ha a
      rintro e w39 ⟨rfl, hBc⟩
      have hg := grown_call hBc; clear hBc
      replace hB := keepB0 hg hB
      clear hg
      refine ⟨_, rfl, ?_⟩; intro a ha
      refine svg ha (r_move ha rfl) rfl rfl rfl rfl rfl ?_; clear ha a; intro a ha
      refine scg ha (r_call ha [ei ((zsub x y : Nat) : Int), ei y] rfl Tryd.call21) rfl rfl rfl rfl rfl (c_add ((zsub x y : Nat) : Int) y _ ) ?_
      clear ha a
      rintro e w40 ⟨rfl, hBc⟩
      have hg := grown_call hBc; clear hBc
      replace hB := keepB0 hg hB
      clear hg
      refine ⟨_, rfl, ?_⟩; intro a ha
      refine svg ha (r_move ha rfl) rfl rfl rfl rfl rfl ?_; clear ha a; intro a ha
      refine scg ha (r_call ha [ei x] rfl Tryd.call20) rfl rfl rfl rfl rfl (c_mod x _ ) ?_
      clear ha a
      rintro e w41 ⟨rfl, hBc⟩
      have hg := grown_call hBc; clear hBc
      replace hB := keepB0 hg hB
      clear hg
      refine ⟨_, rfl, ?_⟩; intro a ha
      refine svg ha (r_eql ha ((zadd ((zsub x y : Nat) : Int) y : Nat) : Int) ((zmod x : Nat) : Int) true rfl rfl (decide_eq_true (by rw [sub_add_z]))) rfl rfl rfl rfl rfl ?_; clear ha a; intro a ha
      refine sv ha (r_pick ha true rfl rfl) rfl rfl rfl ?_; clear ha a; intro a ha
      refine sv ha (r_assign ha rfl) rfl rfl rfl ?_; clear ha a; intro a ha
      refine hK33 _ _ ?_; clear hK33 K32
      refine wp_ret ?_
      repeat (first | (with_reducible refine t_ret ?_) | (with_reducible refine x_ret ?_))
      exact ret1 ha Tryd.results10 rfl ⟨rfl, hB⟩
    case true =>
      replace hq21 := of_decide_eq_true hq21
      refine svg ha (r_move ha rfl) rfl rfl rfl rfl rfl ?_; clear ha a; intro a ha
      refine svg ha (r_neq ha ((zmul x ((zpow x 3327 : Nat) : Int) : Nat) : Int) 1 false rfl rfl (decide_eq_false (fun h => h (by rw [inv_one x (by omega)]; rfl)))) rfl rfl rfl rfl rfl ?_; clear ha a; intro a ha
      refine svg ha (r_pick ha true rfl rfl) rfl rfl rfl rfl rfl ?_; clear ha a; intro a ha
      refine sv ha (r_pick ha false rfl rfl) rfl rfl rfl ?_; clear ha a; intro a ha
      refine hK17 _ _ ?_; clear hK17 K16
      refine cond_f ha rfl ?_
      refine wp_skip ?_
      refine hK15 _ _ ?_; clear hK15 K14
      refine wp_seq_k fun K42 hK43 => ?_
      refine region ?_
      refine sv ha (r_move ha rfl) rfl rfl rfl ?_; clear ha a; intro a ha
      refine sv ha (r_move ha rfl) rfl rfl rfl ?_; clear ha a; intro a ha
      refine sc ha (r_call ha [ei x, ei y] rfl Tryd.call21) rfl rfl rfl (c_add x y _ ) ?_
      clear ha a
      rintro e w44 ⟨rfl, hBc⟩
      have hg := grown_call hBc; clear hBc
      replace hB := keepB0 hg hB
      clear hg
      refine ⟨_, rfl, ?_⟩; intro a ha
      refine sv ha (r_move ha rfl) rfl rfl rfl ?_; clear ha a; intro a ha
      refine sc ha (r_call ha [ei ((zadd x y : Nat) : Int), ei z] rfl Tryd.call21) rfl rfl rfl (c_add ((zadd x y : Nat) : Int) z _ ) ?_
      clear ha a
      rintro e w45 ⟨rfl, hBc⟩
      have hg := grown_call hBc; clear hBc
      replace hB := keepB0 hg hB
      clear hg
      refine ⟨_, rfl, ?_⟩; intro a ha
      refine sv ha (r_move ha rfl) rfl rfl rfl ?_; clear ha a; intro a ha
      refine sv ha (r_move ha rfl) rfl rfl rfl ?_; clear ha a; intro a ha
      refine sv ha (r_move ha rfl) rfl rfl rfl ?_; clear ha a; intro a ha
      refine sc ha (r_call ha [ei y, ei z] rfl Tryd.call21) rfl rfl rfl (c_add y z _ ) ?_
      clear ha a
      rintro e w46 ⟨rfl, hBc⟩
      have hg := grown_call hBc; clear hBc
      replace hB := keepB0 hg hB
      clear hg
      refine ⟨_, rfl, ?_⟩; intro a ha
      refine sc ha (r_call ha [ei x, ei ((zadd y z : Nat) : Int)] rfl Tryd.call21) rfl rfl rfl (c_add x ((zadd y z : Nat) : Int) _ ) ?_
      clear ha a
      rintro e w47 ⟨rfl, hBc⟩
      have hg := grown_call hBc; clear hBc
      replace hB := keepB0 hg hB
      clear hg
      refine ⟨_, rfl, ?_⟩; intro a ha
      refine sv ha (r_eql ha ((zadd ((zadd x y : Nat) : Int) z : Nat) : Int) ((zadd x ((zadd y z : Nat) : Int) : Nat) : Int) true rfl rfl (decide_eq_true (by rw [add_assoc_z]))) rfl rfl rfl ?_; clear ha a; intro a ha
      refine sv ha (r_move ha rfl) rfl rfl rfl ?_; clear ha a; intro a ha
      refine svg ha (r_move ha rfl) rfl rfl rfl rfl rfl ?_; clear ha a; intro a ha
      refine svg ha (r_move ha rfl) rfl rfl rfl rfl rfl ?_; clear ha a; intro a ha
      refine scg ha (r_call ha [ei x, ei y] rfl Tryd.call23) rfl rfl rfl rfl rfl (c_mul x y _ ) ?_
      clear ha a
      rintro e w48 ⟨rfl, hBc⟩
      have hg := grown_call hBc; clear hBc
      replace hB := keepB0 hg hB
      clear hg
      refine ⟨_, rfl, ?_⟩; intro a ha
      refine svg ha (r_move ha rfl) rfl rfl rfl rfl rfl ?_; clear ha a; intro a ha
      refine scg ha (r_call ha [ei ((zmul x y : Nat) : Int), ei z] rfl Tryd.call23) rfl rfl rfl rfl rfl (c_mul ((zmul x y : Nat) : Int) z _ ) ?_
      clear ha a
      rintro e w49 ⟨rfl, hBc⟩
      have hg := grown_call hBc; clear hBc
      replace hB := keepB0 hg hB
      clear hg
      refine ⟨_, rfl, ?_⟩; intro a ha
      refine svg ha (r_move ha rfl) rfl rfl rfl rfl rfl ?_; clear ha a; intro a ha
      refine svg ha (r_move ha rfl) rfl rfl rfl rfl rfl ?_; clear ha a; intro a ha
      refine svg ha (r_move ha rfl) rfl rfl rfl rfl rfl ?_; clear ha a; intro a ha
      refine scg ha (r_call ha [ei y, ei z] rfl Tryd.call23) rfl rfl rfl rfl rfl (c_mul y z _ ) ?_
      clear ha a
      rintro e w50 ⟨rfl, hBc⟩
      have hg := grown_call hBc; clear hBc
      replace hB := keepB0 hg hB
      clear hg
      refine ⟨_, rfl, ?_⟩; intro a ha
      refine scg ha (r_call ha [ei x, ei ((zmul y z : Nat) : Int)] rfl Tryd.call23) rfl rfl rfl rfl rfl (c_mul x ((zmul y z : Nat) : Int) _ ) ?_
      clear ha a
      rintro e w51 ⟨rfl, hBc⟩
      have hg := grown_call hBc; clear hBc
      replace hB := keepB0 hg hB
      clear hg
      refine ⟨_, rfl, ?_⟩; intro a ha
      refine svg ha (r_eql ha ((zmul ((zmul x y : Nat) : Int) z : Nat) : Int) ((zmul x ((zmul y z : Nat) : Int) : Nat) : Int) true rfl rfl (decide_eq_true (by rw [mul_assoc_z]))) rfl rfl rfl rfl rfl ?_; clear ha a; intro a ha
      refine sv ha (r_pick ha true rfl rfl) rfl rfl rfl ?_; clear ha a; intro a ha
      refine sv ha (r_assign ha rfl) rfl rfl rfl ?_; clear ha a; intro a ha
      refine hK43 _ _ ?_; clear hK43 K42
      refine wp_seq_k fun K52 hK53 => ?_
      refine region ?_
      refine sv ha (r_move ha rfl) rfl rfl rfl ?_; clear ha a; intro a ha
      refine sv ha (r_move ha rfl) rfl rfl rfl ?_; clear ha a; intro a ha
      refine svg ha (r_move ha rfl) rfl rfl rfl rfl rfl ?_; clear ha a; intro a ha
      refine svg ha (r_move ha rfl) rfl rfl rfl rfl rfl ?_; clear ha a; intro a ha
      refine svg ha (r_move ha rfl) rfl rfl rfl rfl rfl ?_; clear ha a; intro a ha
      refine scg ha (r_call ha [ei y, ei z] rfl Tryd.call21) rfl rfl rfl rfl rfl (c_add y z _ ) ?_
      clear ha a
      rintro e w54 ⟨rfl, hBc⟩
      have hg := grown_call hBc; clear hBc
      replace hB := keepB0 hg hB
      clear hg
      refine ⟨_, rfl, ?_⟩; intro a ha
      refine scg ha (r_call ha [ei x, ei ((zadd y z : Nat) : Int)] rfl Tryd.call23) rfl rfl rfl rfl rfl (c_mul x ((zadd y z : Nat) : Int) _ ) ?_
      clear ha a
      rintro e w55 ⟨rfl, hBc⟩
      have hg := grown_call hBc; clear hBc
      replace hB := keepB0 hg hB
      clear hg
      refine ⟨_, rfl, ?_⟩; intro a ha
      refine svg ha (r_move ha rfl) rfl rfl rfl rfl rfl ?_; clear ha a; intro a ha
      refine svg ha (r_move ha rfl) rfl rfl rfl rfl rfl ?_; clear ha a; intro a ha
      refine scg ha (r_call ha [ei x, ei y] rfl Tryd.call23) rfl rfl rfl rfl rfl (c_mul x y _ ) ?_
      clear ha a
      rintro e w56 ⟨rfl, hBc⟩
      have hg := grown_call hBc; clear hBc
      replace hB := keepB0 hg hB
      clear hg
      refine ⟨_, rfl, ?_⟩; intro a ha
      refine svg ha (r_move ha rfl) rfl rfl rfl rfl rfl ?_; clear ha a; intro a ha
      refine svg ha (r_move ha rfl) rfl rfl rfl rfl rfl ?_; clear ha a; intro a ha
      refine scg ha (r_call ha [ei x, ei z] rfl Tryd.call23) rfl rfl rfl rfl rfl (c_mul x z _ ) ?_
      clear ha a
      rintro e w57 ⟨rfl, hBc⟩
      have hg := grown_call hBc; clear hBc
      replace hB := keepB0 hg hB
      clear hg
      refine ⟨_, rfl, ?_⟩; intro a ha
      refine scg ha (r_call ha [ei ((zmul x y : Nat) : Int), ei ((zmul x z : Nat) : Int)] rfl Tryd.call21) rfl rfl rfl rfl rfl (c_add ((zmul x y : Nat) : Int) ((zmul x z : Nat) : Int) _ ) ?_
      clear ha a
      rintro e w58 ⟨rfl, hBc⟩
      have hg := grown_call hBc; clear hBc
      replace hB := keepB0 hg hB
      clear hg
      refine ⟨_, rfl, ?_⟩; intro a ha
      refine svg ha (r_eql ha ((zmul x ((zadd y z : Nat) : Int) : Nat) : Int) ((zadd ((zmul x y : Nat) : Int) ((zmul x z : Nat) : Int) : Nat) : Int) true rfl rfl (decide_eq_true (by rw [dist_z]))) rfl rfl rfl rfl rfl ?_; clear ha a; intro a ha
      refine sv ha (r_pick ha true rfl rfl) rfl rfl rfl ?_; clear ha a; intro a ha
      refine sv ha (r_move ha rfl) rfl rfl rfl ?_; clear ha a; intro a ha
      refine svg ha (r_move ha rfl) rfl rfl rfl rfl rfl ?_; clear ha a; intro a ha
      refine svg ha (r_move ha rfl) rfl rfl rfl rfl rfl ?_; clear ha a; intro a ha
      refine scg ha (r_call ha [ei x, ei y] rfl Tryd.call22) rfl rfl rfl rfl rfl (c_sub x y _ ) ?_
      clear ha a
      rintro e w59 ⟨rfl, hBc⟩
      have hg := grown_call hBc; clear hBc
      replace hB := keepB0 hg hB
      clear hg
      refine ⟨_, rfl, ?_⟩; intro a ha
      refine svg ha (r_move ha rfl) rfl rfl rfl rfl rfl ?_; clear ha a; intro a ha
      refine scg ha (r_call ha [ei ((zsub x y : Nat) : Int), ei y] rfl Tryd.call21) rfl rfl rfl rfl rfl (c_add ((zsub x y : Nat) : Int) y _ ) ?_
      clear ha a
      rintro e w60 ⟨rfl, hBc⟩
      have hg := grown_call hBc; clear hBc
      replace hB := keepB0 hg hB
      clear hg
      refine ⟨_, rfl, ?_⟩; intro a ha
      refine svg ha (r_move ha rfl) rfl rfl rfl rfl rfl ?_; clear ha a; intro a ha
      refine scg ha (r_call ha [ei x] rfl Tryd.call20) rfl rfl rfl rfl rfl (c_mod x _ ) ?_
      clear ha a
      rintro e w61 ⟨rfl, hBc⟩
      have hg := grown_call hBc; clear hBc
      replace hB := keepB0 hg hB
      clear hg
      refine ⟨_, rfl, ?_⟩; intro a ha
      refine svg ha (r_eql ha ((zadd ((zsub x y : Nat) : Int) y : Nat) : Int) ((zmod x : Nat) : Int) true rfl rfl (decide_eq_true (by rw [sub_add_z]))) rfl rfl rfl rfl rfl ?_; clear ha a; intro a ha
      refine sv ha (r_pick ha true rfl rfl) rfl rfl rfl ?_; clear ha a; intro a ha
      refine sv ha (r_assign ha rfl) rfl rfl rfl ?_; clear ha a; intro a ha
      refine hK53 _ _ ?_; clear hK53 K52
      refine wp_ret ?_
      repeat (first | (with_reducible refine t_ret ?_) | (with_reducible refine x_ret ?_))
      exact ret1 ha Tryd.results10 rfl ⟨rfl, hB⟩
  case true =>
    replace hq19 := of_decide_eq_true hq19
    refine svg ha (r_move ha rfl) rfl rfl rfl rfl rfl ?_; clear ha a; intro a ha
    refine svg ha (r_neq ha ((zmul x ((zpow x 3327 : Nat) : Int) : Nat) : Int) 0 false rfl rfl (decide_eq_false (fun h => h (by rw [inv_zero x (by omega)]; rfl)))) rfl rfl rfl rfl rfl ?_; clear ha a; intro a ha
    refine sv ha (r_pick ha true rfl rfl) rfl rfl rfl ?_; clear ha a; intro a ha
    refine sv ha (r_move ha rfl) rfl rfl rfl ?_; clear ha a; intro a ha
    refine svg ha (r_move ha rfl) rfl rfl rfl rfl rfl ?_; clear ha a; intro a ha
    refine scg ha (r_call ha [ei x] rfl Tryd.call20) rfl rfl rfl rfl rfl (c_mod x _ ) ?_
    clear ha a
    rintro e w62 ⟨rfl, hBc⟩
    have hg := grown_call hBc; clear hBc
    replace hB := keepB0 hg hB
    clear hg
    refine ⟨_, rfl, ?_⟩; intro a ha
    refine svg ha (r_neq ha ((zmod x : Nat) : Int) 0 (decide (zmod x ≠ 0)) rfl rfl (decide_eq_decide.2 (by omega))) rfl rfl rfl rfl rfl ?_; clear ha a; intro a ha
    refine svg ha (r_move ha rfl) rfl rfl rfl rfl rfl ?_; clear ha a; intro a ha
    cases hq63 : (decide (zmod x ≠ 0))
    all_goals rw [hq63] at ha
    case false =>
      replace hq63 := of_decide_eq_false hq63
      refine sno ha rfl rfl rfl rfl rfl rfl ?_; clear ha a; intro a ha
      refine sno ha rfl rfl rfl rfl rfl rfl ?_; clear ha a; intro a ha
      refine svg ha (r_pick ha false rfl rfl) rfl rfl rfl rfl rfl ?_; clear ha a; intro a ha
      refine sv ha (r_pick ha false rfl rfl) rfl rfl rfl ?_; clear ha a; intro a ha
      refine hK17 _ _ ?_; clear hK17 K16
      refine cond_f ha rfl ?_
      refine wp_skip ?_
      refine hK15 _ _ ?_; clear hK15 K14
      refine wp_seq_k fun K64 hK65 => ?_
      refine region ?_
      refine sv ha (r_move ha rfl) rfl rfl rfl ?_; clear ha a; intro a ha
      refine sv ha (r_move ha rfl) rfl rfl rfl ?_; clear ha a; intro a ha
      refine sc ha (r_call ha [ei x, ei y] rfl Tryd.call21) rfl rfl rfl (c_add x y _ ) ?_
      clear ha a
      rintro e w66 ⟨rfl, hBc⟩
      have hg := grown_call hBc; clear hBc
      replace hB := keepB0 hg hB
      clear hg
      refine ⟨_, rfl, ?_⟩; intro a ha
      refine sv ha (r_move ha rfl) rfl rfl rfl ?_; clear ha a; intro a ha
      refine sc ha (r_call ha [ei ((zadd x y : Nat) : Int), ei z] rfl Tryd.call21) rfl rfl rfl (c_add ((zadd x y : Nat) : Int) z _ ) ?_
      clear ha a
      rintro e w67 ⟨rfl, hBc⟩
      have hg := grown_call hBc; clear hBc
      replace hB := keepB0 hg hB
      clear hg
      refine ⟨_, rfl, ?_⟩; intro a ha
      refine sv ha (r_move ha rfl) rfl rfl rfl ?_; clear ha a; intro a ha
      refine sv ha (r_move ha rfl) rfl rfl rfl ?_; clear ha a; intro a ha
      refine sv ha (r_move ha rfl) rfl rfl rfl ?_; clear ha a; intro a ha
      refine sc ha (r_call ha [ei y, ei z] rfl Tryd.call21) rfl rfl rfl (c_add y z _ ) ?_
      clear ha a
      rintro e w68 ⟨rfl, hBc⟩
      have hg := grown_call hBc; clear hBc
      replace hB := keepB0 hg hB
      clear hg
      refine ⟨_, rfl, ?_⟩; intro a ha
      refine sc ha (r_call ha [ei x, ei ((zadd y z : Nat) : Int)] rfl Tryd.call21) rfl rfl rfl (c_add x ((zadd y z : Nat) : Int) _ ) ?_
      clear ha a
      rintro e w69 ⟨rfl, hBc⟩
      have hg := grown_call hBc; clear hBc
      replace hB := keepB0 hg hB
      clear hg
      refine ⟨_, rfl, ?_⟩; intro a ha
      refine sv ha (r_eql ha ((zadd ((zadd x y : Nat) : Int) z : Nat) : Int) ((zadd x ((zadd y z : Nat) : Int) : Nat) : Int) true rfl rfl (decide_eq_true (by rw [add_assoc_z]))) rfl rfl rfl ?_; clear ha a; intro a ha
      refine sv ha (r_move ha rfl) rfl rfl rfl ?_; clear ha a; intro a ha
      refine svg ha (r_move ha rfl) rfl rfl rfl rfl rfl ?_; clear ha a; intro a ha
      refine svg ha (r_move ha rfl) rfl rfl rfl rfl rfl ?_; clear ha a; intro a ha
      refine scg ha (r_call ha [ei x, ei y] rfl Tryd.call23) rfl rfl rfl rfl rfl (c_mul x y _ ) ?_
      clear ha a
      rintro e w70 ⟨rfl, hBc⟩
      have hg := grown_call hBc; clear hBc
      replace hB := keepB0 hg hB
      clear hg
      refine ⟨_, rfl, ?_⟩; intro a ha
      refine svg ha (r_move ha rfl) rfl rfl rfl rfl rfl ?_; clear ha a; intro a ha
      refine scg ha (r_call ha [ei ((zmul x y : Nat) : Int), ei z] rfl Tryd.call23) rfl rfl rfl rfl rfl (c_mul ((zmul x y : Nat) : Int) z _ ) ?_
      clear ha a
      rintro e w71 ⟨rfl, hBc⟩
      have hg := grown_call hBc; clear hBc
      replace hB := keepB0 hg hB
      clear hg
      refine ⟨_, rfl, ?_⟩; intro a ha
      refine svg ha (r_move ha rfl) rfl rfl rfl rfl rfl ?_; clear ha a; intro a ha
      refine svg ha (r_move ha rfl) rfl rfl rfl rfl rfl ?_; clear ha a; intro a ha
      refine svg ha (r_move ha rfl) rfl rfl rfl rfl rfl ?_; clear ha a; intro a ha
      refine scg ha (r_call ha [ei y, ei z] rfl Tryd.call23) rfl rfl rfl rfl rfl (c_mul y z _ ) ?_
      clear ha a
      rintro e w72 ⟨rfl, hBc⟩
      have hg := grown_call hBc; clear hBc
      replace hB := keepB0 hg hB
      clear hg
      refine ⟨_, rfl, ?_⟩; intro a ha
      refine scg ha (r_call ha [ei x, ei ((zmul y z : Nat) : Int)] rfl Tryd.call23) rfl rfl rfl rfl rfl (c_mul x ((zmul y z : Nat) : Int) _ ) ?_
      clear ha a
      rintro e w73 ⟨rfl, hBc⟩
      have hg := grown_call hBc; clear hBc
      replace hB := keepB0 hg hB
      clear hg
      refine ⟨_, rfl, ?_⟩; intro a ha
      refine svg ha (r_eql ha ((zmul ((zmul x y : Nat) : Int) z : Nat) : Int) ((zmul x ((zmul y z : Nat) : Int) : Nat) : Int) true rfl rfl (decide_eq_true (by rw [mul_assoc_z]))) rfl rfl rfl rfl rfl ?_; clear ha a; intro a ha
      refine sv ha (r_pick ha true rfl rfl) rfl rfl rfl ?_; clear ha a; intro a ha
      refine sv ha (r_assign ha rfl) rfl rfl rfl ?_; clear ha a; intro a ha
      refine hK65 _ _ ?_; clear hK65 K64
      refine wp_seq_k fun K74 hK75 => ?_
      refine region ?_
      refine sv ha (r_move ha rfl) rfl rfl rfl ?_; clear ha a; intro a ha
      refine sv ha (r_move ha rfl) rfl rfl rfl ?_; clear ha a; intro a ha
      refine svg ha (r_move ha rfl) rfl rfl rfl rfl rfl ?_; clear ha a; intro a ha
      refine svg ha (r_move ha rfl) rfl rfl rfl rfl rfl ?_; clear ha a; intro a ha
      refine svg ha (r_move ha rfl) rfl rfl rfl rfl rfl ?_; clear ha a; intro a ha
      refine scg ha (r_call ha [ei y, ei z] rfl Tryd.call21) rfl rfl rfl rfl rfl (c_add y z _ ) ?_
      clear ha a
      rintro e w76 ⟨rfl, hBc⟩
      have hg := grown_call hBc; clear hBc
      replace hB := keepB0 hg hB
      clear hg
      refine ⟨_, rfl, ?_⟩; intro a ha
      refine scg ha (r_call ha [ei x, ei ((zadd y z : Nat) : Int)] rfl Tryd.call23) rfl rfl rfl rfl rfl (c_mul x ((zadd y z : Nat) : Int) _ ) ?_
      clear ha a
      rintro e w77 ⟨rfl, hBc⟩
      have hg := grown_call hBc; clear hBc
      replace hB := keepB0 hg hB
      clear hg
      refine ⟨_, rfl, ?_⟩; intro a ha
      refine svg ha (r_move ha rfl) rfl rfl rfl rfl rfl ?_; clear ha a; intro a ha
      refine svg ha (r_move ha rfl) rfl rfl rfl rfl rfl ?_; clear ha a; intro a ha
      refine scg ha (r_call ha [ei x, ei y] rfl Tryd.call23) rfl rfl rfl rfl rfl (c_mul x y _ ) ?_
      clear ha a
      rintro e w78 ⟨rfl, hBc⟩
      have hg := grown_call hBc; clear hBc
      replace hB := keepB0 hg hB
      clear hg
      refine ⟨_, rfl, ?_⟩; intro a ha
      refine svg ha (r_move ha rfl) rfl rfl rfl rfl rfl ?_; clear ha a; intro a ha
      refine svg ha (r_move ha rfl) rfl rfl rfl rfl rfl ?_; clear ha a; intro a ha
      refine scg ha (r_call ha [ei x, ei z] rfl Tryd.call23) rfl rfl rfl rfl rfl (c_mul x z _ ) ?_
      clear ha a
      rintro e w79 ⟨rfl, hBc⟩
      have hg := grown_call hBc; clear hBc
      replace hB := keepB0 hg hB
      clear hg
      refine ⟨_, rfl, ?_⟩; intro a ha
      refine scg ha (r_call ha [ei ((zmul x y : Nat) : Int), ei ((zmul x z : Nat) : Int)] rfl Tryd.call21) rfl rfl rfl rfl rfl (c_add ((zmul x y : Nat) : Int) ((zmul x z : Nat) : Int) _ ) ?_
      clear ha a
      rintro e w80 ⟨rfl, hBc⟩
      have hg := grown_call hBc; clear hBc
      replace hB := keepB0 hg hB
      clear hg
      refine ⟨_, rfl, ?_⟩; intro a ha
      refine svg ha (r_eql ha ((zmul x ((zadd y z : Nat) : Int) : Nat) : Int) ((zadd ((zmul x y : Nat) : Int) ((zmul x z : Nat) : Int) : Nat) : Int) true rfl rfl (decide_eq_true (by rw [dist_z]))) rfl rfl rfl rfl rfl ?_; clear ha a; intro a ha
      refine sv ha (r_pick ha true rfl rfl) rfl rfl rfl ?_; clear ha a; intro a ha
      refine sv ha (r_move ha rfl) rfl rfl rfl ?_; clear ha a; intro a ha
      refine svg ha (r_move ha rfl) rfl rfl rfl rfl rfl ?_; clear ha a; intro a ha
      refine svg ha (r_move ha rfl) rfl rfl rfl rfl rfl ?_; clear ha a; intro a ha
      refine scg ha (r_call ha [ei x, ei y] rfl Tryd.call22) rfl rfl rfl rfl rfl (c_sub x y _ ) ?_
      clear ha a
      rintro e w81 ⟨rfl, hBc⟩
      have hg := grown_call hBc; clear hBc
      replace hB := keepB0 hg hB
      clear hg
      refine ⟨_, rfl, ?_⟩; intro a ha
      refine svg ha (r_move ha rfl) rfl rfl rfl rfl rfl ?_; clear ha a; intro a ha
      refine scg ha (r_call ha [ei ((zsub x y : Nat) : Int), ei y] rfl Tryd.call21) rfl rfl rfl rfl rfl (c_add ((zsub x y : Nat) : Int) y _ ) ?_
      clear ha a
      rintro e w82 ⟨rfl, hBc⟩
      have hg := grown_call hBc; clear hBc
      replace hB := keepB0 hg hB
      clear hg
      refine ⟨_, rfl, ?_⟩; intro a ha
      refine svg ha (r_move ha rfl) rfl rfl rfl rfl rfl ?_; clear ha a; intro a ha
      refine scg ha (r_call ha [ei x] rfl Tryd.call20) rfl rfl rfl rfl rfl (c_mod x _ ) ?_
      clear ha a
      rintro e w83 ⟨rfl, hBc⟩
      have hg := grown_call hBc; clear hBc
      replace hB := keepB0 hg hB
      clear hg
      refine ⟨_, rfl, ?_⟩; intro a ha
      refine svg ha (r_eql ha ((zadd ((zsub x y : Nat) : Int) y : Nat) : Int) ((zmod x : Nat) : Int) true rfl rfl (decide_eq_true (by rw [sub_add_z]))) rfl rfl rfl rfl rfl ?_; clear ha a; intro a ha
      refine sv ha (r_pick ha true rfl rfl) rfl rfl rfl ?_; clear ha a; intro a ha
      refine sv ha (r_assign ha rfl) rfl rfl rfl ?_; clear ha a; intro a ha
      refine hK75 _ _ ?_; clear hK75 K74
      refine wp_ret ?_
      repeat (first | (with_reducible refine t_ret ?_) | (with_reducible refine x_ret ?_))
      exact ret1 ha Tryd.results10 rfl ⟨rfl, hB⟩
    case true =>
      replace hq63 := of_decide_eq_true hq63
      refine svg ha (r_move ha rfl) rfl rfl rfl rfl rfl ?_; clear ha a; intro a ha
      refine svg ha (r_neq ha ((zmul x ((zpow x 3327 : Nat) : Int) : Nat) : Int) 1 false rfl rfl (decide_eq_false (fun h => h (by rw [inv_one x (by omega)]; rfl)))) rfl rfl rfl rfl rfl ?_; clear ha a; intro a ha
      refine svg ha (r_pick ha true rfl rfl) rfl rfl rfl rfl rfl ?_; clear ha a; intro a ha
      refine sv ha (r_pick ha false rfl rfl) rfl rfl rfl ?_; clear ha a; intro a ha
      refine hK17 _ _ ?_; clear hK17 K16
      refine cond_f ha rfl ?_
      refine wp_skip ?_
      refine hK15 _ _ ?_; clear hK15 K14
      refine wp_seq_k fun K84 hK85 => ?_
      refine region ?_
      refine sv ha (r_move ha rfl) rfl rfl rfl ?_; clear ha a; intro a ha
      refine sv ha (r_move ha rfl) rfl rfl rfl ?_; clear ha a; intro a ha
      refine sc ha (r_call ha [ei x, ei y] rfl Tryd.call21) rfl rfl rfl (c_add x y _ ) ?_
      clear ha a
      rintro e w86 ⟨rfl, hBc⟩
      have hg := grown_call hBc; clear hBc
      replace hB := keepB0 hg hB
      clear hg
      refine ⟨_, rfl, ?_⟩; intro a ha
      refine sv ha (r_move ha rfl) rfl rfl rfl ?_; clear ha a; intro a ha
      refine sc ha (r_call ha [ei ((zadd x y : Nat) : Int), ei z] rfl Tryd.call21) rfl rfl rfl (c_add ((zadd x y : Nat) : Int) z _ ) ?_
      clear ha a
      rintro e w87 ⟨rfl, hBc⟩
      have hg := grown_call hBc; clear hBc
      replace hB := keepB0 hg hB
      clear hg
      refine ⟨_, rfl, ?_⟩; intro a ha
      refine sv ha (r_move ha rfl) rfl rfl rfl ?_; clear ha a; intro a ha
      refine sv ha (r_move ha rfl) rfl rfl rfl ?_; clear ha a; intro a ha
      refine sv ha (r_move ha rfl) rfl rfl rfl ?_; clear ha a; intro a ha
      refine sc ha (r_call ha [ei y, ei z] rfl Tryd.call21) rfl rfl rfl (c_add y z _ ) ?_
      clear ha a
      rintro e w88 ⟨rfl, hBc⟩
      have hg := grown_call hBc; clear hBc
      replace hB := keepB0 hg hB
      clear hg
      refine ⟨_, rfl, ?_⟩; intro a ha
      refine sc ha (r_call ha [ei x, ei ((zadd y z : Nat) : Int)] rfl Tryd.call21) rfl rfl rfl (c_add x ((zadd y z : Nat) : Int) _ ) ?_
      clear ha a
      rintro e w89 ⟨rfl, hBc⟩
      have hg := grown_call hBc; clear hBc
      replace hB := keepB0 hg hB
      clear hg
      refine ⟨_, rfl, ?_⟩; intro a ha
      refine sv ha (r_eql ha ((zadd ((zadd x y : Nat) : Int) z : Nat) : Int) ((zadd x ((zadd y z : Nat) : Int) : Nat) : Int) true rfl rfl (decide_eq_true (by rw [add_assoc_z]))) rfl rfl rfl ?_; clear ha a; intro a ha
      refine sv ha (r_move ha rfl) rfl rfl rfl ?_; clear ha a; intro a ha
      refine svg ha (r_move ha rfl) rfl rfl rfl rfl rfl ?_; clear ha a; intro a ha
      refine svg ha (r_move ha rfl) rfl rfl rfl rfl rfl ?_; clear ha a; intro a ha
      refine scg ha (r_call ha [ei x, ei y] rfl Tryd.call23) rfl rfl rfl rfl rfl (c_mul x y _ ) ?_
      clear ha a
      rintro e w90 ⟨rfl, hBc⟩
      have hg := grown_call hBc; clear hBc
      replace hB := keepB0 hg hB
      clear hg
      refine ⟨_, rfl, ?_⟩; intro a ha
      refine svg ha (r_move ha rfl) rfl rfl rfl rfl rfl ?_; clear ha a; intro a ha
      refine scg ha (r_call ha [ei ((zmul x y : Nat) : Int), ei z] rfl Tryd.call23) rfl rfl rfl rfl rfl (c_mul ((zmul x y : Nat) : Int) z _ ) ?_
      clear ha a
      rintro e w91 ⟨rfl, hBc⟩
      have hg := grown_call hBc; clear hBc
      replace hB := keepB0 hg hB
      clear hg
      refine ⟨_, rfl, ?_⟩; intro a ha
      refine svg ha (r_move ha rfl) rfl rfl rfl rfl rfl ?_; clear ha a; intro a ha
      refine svg ha (r_move ha rfl) rfl rfl rfl rfl rfl ?_; clear ha a; intro a ha
      refine svg ha (r_move ha rfl) rfl rfl rfl rfl rfl ?_; clear ha a; intro a ha
      refine scg ha (r_call ha [ei y, ei z] rfl Tryd.call23) rfl rfl rfl rfl rfl (c_mul y z _ ) ?_
      clear ha a
      rintro e w92 ⟨rfl, hBc⟩
      have hg := grown_call hBc; clear hBc
      replace hB := keepB0 hg hB
      clear hg
      refine ⟨_, rfl, ?_⟩; intro a ha
      refine scg ha (r_call ha [ei x, ei ((zmul y z : Nat) : Int)] rfl Tryd.call23) rfl rfl rfl rfl rfl (c_mul x ((zmul y z : Nat) : Int) _ ) ?_
      clear ha a
      rintro e w93 ⟨rfl, hBc⟩
      have hg := grown_call hBc; clear hBc
      replace hB := keepB0 hg hB
      clear hg
      refine ⟨_, rfl, ?_⟩; intro a ha
      refine svg ha (r_eql ha ((zmul ((zmul x y : Nat) : Int) z : Nat) : Int) ((zmul x ((zmul y z : Nat) : Int) : Nat) : Int) true rfl rfl (decide_eq_true (by rw [mul_assoc_z]))) rfl rfl rfl rfl rfl ?_; clear ha a; intro a ha
      refine sv ha (r_pick ha true rfl rfl) rfl rfl rfl ?_; clear ha a; intro a ha
      refine sv ha (r_assign ha rfl) rfl rfl rfl ?_; clear ha a; intro a ha
      refine hK85 _ _ ?_; clear hK85 K84
      refine wp_seq_k fun K94 hK95 => ?_
      refine region ?_
      refine sv ha (r_move ha rfl) rfl rfl rfl ?_; clear ha a; intro a ha
      refine sv ha (r_move ha rfl) rfl rfl rfl ?_; clear ha a; intro a ha
      refine svg ha (r_move ha rfl) rfl rfl rfl rfl rfl ?_; clear ha a; intro a ha
      refine svg ha (r_move ha rfl) rfl rfl rfl rfl rfl ?_; clear ha a; intro a ha
      refine svg ha (r_move ha rfl) rfl rfl rfl rfl rfl ?_; clear ha a; intro a ha
      refine scg ha (r_call ha [ei y, ei z] rfl Tryd.call21) rfl rfl rfl rfl rfl (c_add y z _ ) ?_
      clear ha a
      rintro e w96 ⟨rfl, hBc⟩
      have hg := grown_call hBc; clear hBc
      replace hB := keepB0 hg hB
      clear hg
      refine ⟨_, rfl, ?_⟩; intro a ha
      refine scg ha (r_call ha [ei x, ei ((zadd y z : Nat) : Int)] rfl Tryd.call23) rfl rfl rfl rfl rfl (c_mul x ((zadd y z : Nat) : Int) _ ) ?_
      clear ha a
      rintro e w97 ⟨rfl, hBc⟩
      have hg := grown_call hBc; clear hBc
      replace hB := keepB0 hg hB
      clear hg
      refine ⟨_, rfl, ?_⟩; intro a ha
      refine svg ha (r_move ha rfl) rfl rfl rfl rfl rfl ?_; clear ha a; intro a ha
      refine svg ha (r_move ha rfl) rfl rfl rfl rfl rfl ?_; clear ha a; intro a ha
      refine scg ha (r_call ha [ei x, ei y] rfl Tryd.call23) rfl rfl rfl rfl rfl (c_mul x y _ ) ?_
      clear ha a
      rintro e w98 ⟨rfl, hBc⟩
      have hg := grown_call hBc; clear hBc
      replace hB := keepB0 hg hB
      clear hg
      refine ⟨_, rfl, ?_⟩; intro a ha
      refine svg ha (r_move ha rfl) rfl rfl rfl rfl rfl ?_; clear ha a; intro a ha
      refine svg ha (r_move ha rfl) rfl rfl rfl rfl rfl ?_; clear ha a; intro a ha
      refine scg ha (r_call ha [ei x, ei z] rfl Tryd.call23) rfl rfl rfl rfl rfl (c_mul x z _ ) ?_
      clear ha a
      rintro e w99 ⟨rfl, hBc⟩
      have hg := grown_call hBc; clear hBc
      replace hB := keepB0 hg hB
      clear hg
      refine ⟨_, rfl, ?_⟩; intro a ha
      refine scg ha (r_call ha [ei ((zmul x y : Nat) : Int), ei ((zmul x z : Nat) : Int)] rfl Tryd.call21) rfl rfl rfl rfl rfl (c_add ((zmul x y : Nat) : Int) ((zmul x z : Nat) : Int) _ ) ?_
      clear ha a
      rintro e w100 ⟨rfl, hBc⟩
      have hg := grown_call hBc; clear hBc
      replace hB := keepB0 hg hB
      clear hg
      refine ⟨_, rfl, ?_⟩; intro a ha
      refine svg ha (r_eql ha ((zmul x ((zadd y z : Nat) : Int) : Nat) : Int) ((zadd ((zmul x y : Nat) : Int) ((zmul x z : Nat) : Int) : Nat) : Int) true rfl rfl (decide_eq_true (by rw [dist_z]))) rfl rfl rfl rfl rfl ?_; clear ha a; intro a ha
      refine sv ha (r_pick ha true rfl rfl) rfl rfl rfl ?_; clear ha a; intro a ha
      refine sv ha (r_move ha rfl) rfl rfl rfl ?_; clear ha a; intro a ha
      refine svg ha (r_move ha rfl) rfl rfl rfl rfl rfl ?_; clear ha a; intro a ha
      refine svg ha (r_move ha rfl) rfl rfl rfl rfl rfl ?_; clear ha a; intro a ha
      refine scg ha (r_call ha [ei x, ei y] rfl Tryd.call22) rfl rfl rfl rfl rfl (c_sub x y _ ) ?_
      clear ha a
      rintro e w101 ⟨rfl, hBc⟩
      have hg := grown_call hBc; clear hBc
      replace hB := keepB0 hg hB
      clear hg
      refine ⟨_, rfl, ?_⟩; intro a ha
      refine svg ha (r_move ha rfl) rfl rfl rfl rfl rfl ?_; clear ha a; intro a ha
      refine scg ha (r_call ha [ei ((zsub x y : Nat) : Int), ei y] rfl Tryd.call21) rfl rfl rfl rfl rfl (c_add ((zsub x y : Nat) : Int) y _ ) ?_
      clear ha a
      rintro e w102 ⟨rfl, hBc⟩
      have hg := grown_call hBc; clear hBc
      replace hB := keepB0 hg hB
      clear hg
      refine ⟨_, rfl, ?_⟩; intro a ha
      refine svg ha (r_move ha rfl) rfl rfl rfl rfl rfl ?_; clear ha a; intro a ha
      refine scg ha (r_call ha [ei x] rfl Tryd.call20) rfl rfl rfl rfl rfl (c_mod x _ ) ?_
      clear ha a
      rintro e w103 ⟨rfl, hBc⟩
      have hg := grown_call hBc; clear hBc
      replace hB := keepB0 hg hB
      clear hg
      refine ⟨_, rfl, ?_⟩; intro a ha
      refine svg ha (r_eql ha ((zadd ((zsub x y : Nat) : Int) y : Nat) : Int) ((zmod x : Nat) : Int) true rfl rfl (decide_eq_true (by rw [sub_add_z]))) rfl rfl rfl rfl rfl ?_; clear ha a; intro a ha
      refine sv ha (r_pick ha true rfl rfl) rfl rfl rfl ?_; clear ha a; intro a ha
      refine sv ha (r_assign ha rfl) rfl rfl rfl ?_; clear ha a; intro a ha
      refine hK95 _ _ ?_; clear hK95 K94
      refine wp_ret ?_
      repeat (first | (with_reducible refine t_ret ?_) | (with_reducible refine x_ret ?_))
      exact ret1 ha Tryd.results10 rfl ⟨rfl, hB⟩
end Go.Proofs.YtdiddkcoihpnhaaDoor
