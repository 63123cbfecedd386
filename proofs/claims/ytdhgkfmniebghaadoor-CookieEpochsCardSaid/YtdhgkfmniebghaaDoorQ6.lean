/- WALKS written by gen.py (own program) out of specs. -/
import Derived.Test.YtdhgkfmniebghaaDoorQ5
import Derived.Test.YtdhgkfmniebghaaDoorSe
import Derived.Test.YtdhgkfmniebghaaDoorAw
namespace Go.Proofs.YtdhgkfmniebghaaDoor
open Go.RowKit Go.Rx
set_option maxRecDepth 100000
set_option maxHeartbeats 4000000
set_option linter.unusedVariables false

theorem c_rabsZ (rate : Int) (s : UInt8) (v : Value) (b : List UInt8) (w0 : World) (hs : Sl w0 v (b.map e8)) (hb : b.length ≤ 100000) :
    Calls Tryd.prog 20 #[ei rate, e8 s, v] w0 fun e w' => ∃ u0 : Value, e = .returned (u0) ∧ Below w0.heap.size w0 w' ∧ Sl w' u0 ((absZ rate s b).map e64) ∧ (∀ j, u0.ownBlock = some j → w0.heap.size ≤ j) := by
  by_cases h : 1 ≤ rate ∧ rate ≤ 200
  · obtain ⟨n, rfl⟩ := Int.eq_ofNat_of_zero_le (show 0 ≤ rate by omega)
    refine (c_rabsN n s v b w0 (by omega) hs hb).mono fun e w h' => ?_
    rw [absZ, if_pos h]; rw [rabs_eq n s b (by omega)] at h'; exact h'
  · refine (c_rabsO rate s v b w0 (by omega) hs).mono fun e w h' => ?_
    rw [absZ, if_neg h]; exact h'

theorem c_rsum256 (v : Value) (b : List UInt8) (w0 : World) (hs : Sl w0 v (b.map e8)) (hb : b.length ≤ 100000) :
    Calls Tryd.prog 22 #[v] w0 fun e w' => ∃ u0 : Value, e = .returned (u0) ∧ Below w0.heap.size w0 w' ∧ Sl w' u0 ((sum256 b).map e8) ∧ (∀ j, u0.ownBlock = some j → w0.heap.size ≤ j) := by
  refine enter (args := [_]) Tryd.func22 rfl Tryd.ntmps22 rfl ?_
  intro a ha
  have hB := Below.refl w0.heap.size w0
  refine wp_seq_k fun K1 hK2 => ?_
  refine region ?_
  refine sv ha (r_assign ha rfl) rfl rfl rfl ?_; clear ha a; intro a ha
  refine hK2 _ _ ?_; clear hK2 K1
  refine wp_seq_k fun K3 hK4 => ?_
  refine region ?_
  refine sv ha (r_move ha rfl) rfl rfl rfl ?_; clear ha a; intro a ha
  refine sc ha (r_call ha [en 136, e8 (6 : UInt8), v] rfl Tryd.call20) rfl rfl rfl (c_rabsN 136 (6 : UInt8) v b _ (by omega) (hs.below hB) (by omega)) ?_
  clear ha a
  rintro e w5 ⟨u6, rfl, hBc, hs6, hd6⟩
  have hg := grown_call hBc; clear hBc
  replace hd6 : ∀ j, u6.ownBlock = some j → w0.heap.size ≤ j := fun j hj => Nat.le_trans hB.size (hd6 j hj)
  replace hB := keepB0 hg hB
  clear hg
  refine ⟨_, rfl, ?_⟩; intro a ha
  refine sc ha (r_call ha [u6, en 136, en 32] rfl Tryd.call51) rfl rfl rfl (c_rout u6 (rabA 136 (6 : UInt8) b (nbk b 136)) 136 32 _ hs6 (by rw [rabA_len]) (by omega) (by omega)) ?_
  clear ha a
  rintro e w7 ⟨u8, rfl, hBc, hs8, hd8⟩
  have hg := grown_call hBc; clear hBc
  have hds_hs8_hs6 : ∀ j, u8.ownBlock = some j → u6.ownBlock ≠ some j := fun j h1 h2 => by have h3 := hd8 j h1; have h4 := (fun j hj => hs6.lt j hj) j h2; omega
  replace hd8 : ∀ j, u8.ownBlock = some j → w0.heap.size ≤ j := fun j hj => Nat.le_trans hB.size (hd8 j hj)
  replace hB := keepB0 hg hB
  replace hs6 := keepS0 hg hs6
  clear hg
  refine ⟨_, rfl, ?_⟩; intro a ha
  refine sv ha (r_assign ha rfl) rfl rfl rfl ?_; clear ha a; intro a ha
  refine hK4 _ _ ?_; clear hK4 K3
  refine wp_ret ?_
  repeat (first | (with_reducible refine t_ret ?_) | (with_reducible refine x_ret ?_))
  exact ret1 ha Tryd.results22 rfl ⟨_, rfl, hB, (Sl.castM (l := sqz (rabA 136 (6 : UInt8) b (nbk b 136)) 136 32) hs8 (by rw [rabs_eq _ _ _ (by omega), sqz_small _ _ _ (by omega)]; rfl)), hd8⟩

theorem c_rsum512 (v : Value) (b : List UInt8) (w0 : World) (hs : Sl w0 v (b.map e8)) (hb : b.length ≤ 100000) :
    Calls Tryd.prog 24 #[v] w0 fun e w' => ∃ u0 : Value, e = .returned (u0) ∧ Below w0.heap.size w0 w' ∧ Sl w' u0 ((sum512 b).map e8) ∧ (∀ j, u0.ownBlock = some j → w0.heap.size ≤ j) := by
  refine enter (args := [_]) Tryd.func24 rfl Tryd.ntmps24 rfl ?_
  intro a ha
  have hB := Below.refl w0.heap.size w0
  refine wp_seq_k fun K1 hK2 => ?_
  refine region ?_
  refine sv ha (r_assign ha rfl) rfl rfl rfl ?_; clear ha a; intro a ha
  refine hK2 _ _ ?_; clear hK2 K1
  refine wp_seq_k fun K3 hK4 => ?_
  refine region ?_
  refine sv ha (r_move ha rfl) rfl rfl rfl ?_; clear ha a; intro a ha
  refine sc ha (r_call ha [en 72, e8 (6 : UInt8), v] rfl Tryd.call20) rfl rfl rfl (c_rabsN 72 (6 : UInt8) v b _ (by omega) (hs.below hB) (by omega)) ?_
  clear ha a
  rintro e w5 ⟨u6, rfl, hBc, hs6, hd6⟩
  have hg := grown_call hBc; clear hBc
  replace hd6 : ∀ j, u6.ownBlock = some j → w0.heap.size ≤ j := fun j hj => Nat.le_trans hB.size (hd6 j hj)
  replace hB := keepB0 hg hB
  clear hg
  refine ⟨_, rfl, ?_⟩; intro a ha
  refine sc ha (r_call ha [u6, en 72, en 64] rfl Tryd.call51) rfl rfl rfl (c_rout u6 (rabA 72 (6 : UInt8) b (nbk b 72)) 72 64 _ hs6 (by rw [rabA_len]) (by omega) (by omega)) ?_
  clear ha a
  rintro e w7 ⟨u8, rfl, hBc, hs8, hd8⟩
  have hg := grown_call hBc; clear hBc
  have hds_hs8_hs6 : ∀ j, u8.ownBlock = some j → u6.ownBlock ≠ some j := fun j h1 h2 => by have h3 := hd8 j h1; have h4 := (fun j hj => hs6.lt j hj) j h2; omega
  replace hd8 : ∀ j, u8.ownBlock = some j → w0.heap.size ≤ j := fun j hj => Nat.le_trans hB.size (hd8 j hj)
  replace hB := keepB0 hg hB
  replace hs6 := keepS0 hg hs6
  clear hg
  refine ⟨_, rfl, ?_⟩; intro a ha
  refine sv ha (r_assign ha rfl) rfl rfl rfl ?_; clear ha a; intro a ha
  refine hK4 _ _ ?_; clear hK4 K3
  refine wp_ret ?_
  repeat (first | (with_reducible refine t_ret ?_) | (with_reducible refine x_ret ?_))
  exact ret1 ha Tryd.results24 rfl ⟨_, rfl, hB, (Sl.castM (l := sqz (rabA 72 (6 : UInt8) b (nbk b 72)) 72 64) hs8 (by rw [rabs_eq _ _ _ (by omega), sqz_small _ _ _ (by omega)]; rfl)), hd8⟩

theorem c_rshake128 (v : Value) (b : List UInt8) (n : Nat) (w0 : World) (hs : Sl w0 v (b.map e8)) (hb : b.length ≤ 100000) (hn : n ≤ 100000) :
    Calls Tryd.prog 28 #[v, en n] w0 fun e w' => ∃ u0 : Value, e = .returned (u0) ∧ Below w0.heap.size w0 w' ∧ Sl w' u0 ((sqz (absR 168 31 noughts b) 168 n).map e8) ∧ (∀ j, u0.ownBlock = some j → w0.heap.size ≤ j) := by
  refine enter (args := [_, _]) Tryd.func28 rfl Tryd.ntmps28 rfl ?_
  intro a ha
  have hB := Below.refl w0.heap.size w0
  refine wp_seq_k fun K1 hK2 => ?_
  refine region ?_
  refine sv ha (r_assign ha rfl) rfl rfl rfl ?_; clear ha a; intro a ha
  refine hK2 _ _ ?_; clear hK2 K1
  refine wp_seq_k fun K3 hK4 => ?_
  refine region ?_
  refine sv ha (r_move ha rfl) rfl rfl rfl ?_; clear ha a; intro a ha
  refine sc ha (r_call ha [en 168, e8 (31 : UInt8), v] rfl Tryd.call20) rfl rfl rfl (c_rabsN 168 (31 : UInt8) v b _ (by omega) (hs.below hB) (by omega)) ?_
  clear ha a
  rintro e w5 ⟨u6, rfl, hBc, hs6, hd6⟩
  have hg := grown_call hBc; clear hBc
  replace hd6 : ∀ j, u6.ownBlock = some j → w0.heap.size ≤ j := fun j hj => Nat.le_trans hB.size (hd6 j hj)
  replace hB := keepB0 hg hB
  clear hg
  refine ⟨_, rfl, ?_⟩; intro a ha
  refine sv ha (r_move ha rfl) rfl rfl rfl ?_; clear ha a; intro a ha
  refine sc ha (r_call ha [u6, en 168, en n] rfl Tryd.call51) rfl rfl rfl (c_rout u6 (rabA 168 (31 : UInt8) b (nbk b 168)) 168 n _ hs6 (by rw [rabA_len]) (by omega) (by omega)) ?_
  clear ha a
  rintro e w7 ⟨u8, rfl, hBc, hs8, hd8⟩
  have hg := grown_call hBc; clear hBc
  have hds_hs8_hs6 : ∀ j, u8.ownBlock = some j → u6.ownBlock ≠ some j := fun j h1 h2 => by have h3 := hd8 j h1; have h4 := (fun j hj => hs6.lt j hj) j h2; omega
  replace hd8 : ∀ j, u8.ownBlock = some j → w0.heap.size ≤ j := fun j hj => Nat.le_trans hB.size (hd8 j hj)
  replace hB := keepB0 hg hB
  replace hs6 := keepS0 hg hs6
  clear hg
  refine ⟨_, rfl, ?_⟩; intro a ha
  refine sv ha (r_assign ha rfl) rfl rfl rfl ?_; clear ha a; intro a ha
  refine hK4 _ _ ?_; clear hK4 K3
  refine wp_ret ?_
  repeat (first | (with_reducible refine t_ret ?_) | (with_reducible refine x_ret ?_))
  exact ret1 ha Tryd.results28 rfl ⟨_, rfl, hB, (Sl.castM (l := sqz (rabA 168 (31 : UInt8) b (nbk b 168)) 168 n) hs8 (by rw [rabs_eq _ _ _ (by omega)])), hd8⟩

theorem c_rshake256 (v : Value) (b : List UInt8) (n : Nat) (w0 : World) (hs : Sl w0 v (b.map e8)) (hb : b.length ≤ 100000) (hn : n ≤ 100000) :
    Calls Tryd.prog 29 #[v, en n] w0 fun e w' => ∃ u0 : Value, e = .returned (u0) ∧ Below w0.heap.size w0 w' ∧ Sl w' u0 ((sqz (absR 136 31 noughts b) 136 n).map e8) ∧ (∀ j, u0.ownBlock = some j → w0.heap.size ≤ j) := by
  refine enter (args := [_, _]) Tryd.func29 rfl Tryd.ntmps29 rfl ?_
  intro a ha
  have hB := Below.refl w0.heap.size w0
  refine wp_seq_k fun K1 hK2 => ?_
  refine region ?_
  refine sv ha (r_assign ha rfl) rfl rfl rfl ?_; clear ha a; intro a ha
  refine hK2 _ _ ?_; clear hK2 K1
  refine wp_seq_k fun K3 hK4 => ?_
  refine region ?_
  refine sv ha (r_move ha rfl) rfl rfl rfl ?_; clear ha a; intro a ha
  refine sc ha (r_call ha [en 136, e8 (31 : UInt8), v] rfl Tryd.call20) rfl rfl rfl (c_rabsN 136 (31 : UInt8) v b _ (by omega) (hs.below hB) (by omega)) ?_
  clear ha a
  rintro e w5 ⟨u6, rfl, hBc, hs6, hd6⟩
  have hg := grown_call hBc; clear hBc
  replace hd6 : ∀ j, u6.ownBlock = some j → w0.heap.size ≤ j := fun j hj => Nat.le_trans hB.size (hd6 j hj)
  replace hB := keepB0 hg hB
  clear hg
  refine ⟨_, rfl, ?_⟩; intro a ha
  refine sv ha (r_move ha rfl) rfl rfl rfl ?_; clear ha a; intro a ha
  refine sc ha (r_call ha [u6, en 136, en n] rfl Tryd.call51) rfl rfl rfl (c_rout u6 (rabA 136 (31 : UInt8) b (nbk b 136)) 136 n _ hs6 (by rw [rabA_len]) (by omega) (by omega)) ?_
  clear ha a
  rintro e w7 ⟨u8, rfl, hBc, hs8, hd8⟩
  have hg := grown_call hBc; clear hBc
  have hds_hs8_hs6 : ∀ j, u8.ownBlock = some j → u6.ownBlock ≠ some j := fun j h1 h2 => by have h3 := hd8 j h1; have h4 := (fun j hj => hs6.lt j hj) j h2; omega
  replace hd8 : ∀ j, u8.ownBlock = some j → w0.heap.size ≤ j := fun j hj => Nat.le_trans hB.size (hd8 j hj)
  replace hB := keepB0 hg hB
  replace hs6 := keepS0 hg hs6
  clear hg
  refine ⟨_, rfl, ?_⟩; intro a ha
  refine sv ha (r_assign ha rfl) rfl rfl rfl ?_; clear ha a; intro a ha
  refine hK4 _ _ ?_; clear hK4 K3
  refine wp_ret ?_
  repeat (first | (with_reducible refine t_ret ?_) | (with_reducible refine x_ret ?_))
  exact ret1 ha Tryd.results29 rfl ⟨_, rfl, hB, (Sl.castM (l := sqz (rabA 136 (31 : UInt8) b (nbk b 136)) 136 n) hs8 (by rw [rabs_eq _ _ _ (by omega)])), hd8⟩

theorem zero_26Q6 : ∀ w, (zeroValue 26).run Tryd.prog w = .ok (.agg ((List.replicate 25 (0 : UInt64)).map e64).toArray) w := fun _ => by kernel_rfl
theorem c_awake03  (w0 : World) (hG : Glob w0) :
    Calls Tryd.prog 17 #[] w0 fun e w' => e = .returned (.bool true) ∧ Below w0.heap.size w0 w' := by
  refine enter (args := []) Tryd.func17 rfl Tryd.ntmps17 rfl ?_
  intro a ha
  have hB := Below.refl w0.heap.size w0
  refine wp_seq_k fun K1 hK2 => ?_
  refine region ?_
  refine sv ha (r_assign ha rfl) rfl rfl rfl ?_; clear ha a; intro a ha
  refine hK2 _ _ ?_; clear hK2 K1
  refine wp_seq_k fun K3 hK4 => ?_
  refine region ?_
  refine sc ha (r_call ha [(.slice none 0 0)] rfl Tryd.call21) rfl rfl rfl (c_sum256 (.slice none 0 0) ([] : List UInt8) _ (Sl.nil _) (glob_keep hG hB)) ?_
  clear ha a
  rintro e w5 ⟨u6, rfl, hBc, hs6, hd6⟩
  have hg := grown_call hBc; clear hBc
  replace hd6 : ∀ j, u6.ownBlock = some j → w0.heap.size ≤ j := fun j hj => Nat.le_trans hB.size (hd6 j hj)
  replace hB := keepB0 hg hB
  clear hg
  refine ⟨_, rfl, ?_⟩; intro a ha
  refine sv ha (r_assign ha rfl) rfl rfl rfl ?_; clear ha a; intro a ha
  refine hK4 _ _ ?_; clear hK4 K3
  refine wp_seq_k fun K7 hK8 => ?_
  refine region ?_
  refine sc ha (r_call ha [(.slice none 0 0)] rfl Tryd.call25) rfl rfl rfl (c_shake128 (.slice none 0 0) ([] : List UInt8) _ (Sl.nil _) (glob_keep hG hB)) ?_
  clear ha a
  rintro e w9 ⟨b10, u10, rfl, hBc, hb10, hge10, hs10, hd10, hnx10⟩
  have hg := grown_call hBc; clear hBc
  have hds_hs10_hs6 : ∀ j, u10.ownBlock = some j → u6.ownBlock ≠ some j := fun j h1 h2 => by have h3 := hd10 j h1; have h4 := (fun j hj => hs6.lt j hj) j h2; omega
  have hz10 : w0.heap.size ≤ b10 := Nat.le_trans hB.size hge10
  have hne_hs6_b10 : ∀ j, Value.ownBlock u6 = some j → j ≠ b10 := fun j hj => by have := hs6.lt j hj; omega
  replace hd10 : ∀ j, u10.ownBlock = some j → w0.heap.size ≤ j := fun j hj => Nat.le_trans hB.size (hd10 j hj)
  replace hB := keepB0 hg hB
  replace hs6 := keepS0 hg hs6
  clear hg hge10
  refine ⟨_, rfl, ?_⟩; intro a ha
  refine sv ha (r_assign ha rfl) rfl rfl rfl ?_; clear ha a; intro a ha
  refine hK8 _ _ ?_; clear hK8 K7
  refine wp_seq_k fun K11 hK12 => ?_
  refine region ?_
  refine sc ha (r_call ha [(.slice none 0 0)] rfl Tryd.call26) rfl rfl rfl (c_shake256 (.slice none 0 0) ([] : List UInt8) _ (Sl.nil _) (glob_keep hG hB)) ?_
  clear ha a
  rintro e w13 ⟨b14, u14, rfl, hBc, hb14, hge14, hs14, hd14, hnx14⟩
  have hg := grown_call hBc; clear hBc
  have hnb_hs14_b10 : ∀ j, u14.ownBlock = some j → j ≠ b10 := fun j hj => by have h1 := hd14 j hj; have h2 := lt_of_block hb10; omega
  have hds_hs14_hs6 : ∀ j, u14.ownBlock = some j → u6.ownBlock ≠ some j := fun j h1 h2 => by have h3 := hd14 j h1; have h4 := (fun j hj => hs6.lt j hj) j h2; omega
  have hds_hs14_hs10 : ∀ j, u14.ownBlock = some j → u10.ownBlock ≠ some j := fun j h1 h2 => by have h3 := hd14 j h1; have h4 := (fun j hj => hs10.lt j hj) j h2; omega
  have hz14 : w0.heap.size ≤ b14 := Nat.le_trans hB.size hge14
  have hne_hs6_b14 : ∀ j, Value.ownBlock u6 = some j → j ≠ b14 := fun j hj => by have := hs6.lt j hj; omega
  have hne_hs10_b14 : ∀ j, Value.ownBlock u10 = some j → j ≠ b14 := fun j hj => by have := hs10.lt j hj; omega
  have hq10_14 : b10 < b14 := Nat.lt_of_lt_of_le (lt_of_block hb10) hge14
  replace hd14 : ∀ j, u14.ownBlock = some j → w0.heap.size ≤ j := fun j hj => Nat.le_trans hB.size (hd14 j hj)
  replace hB := keepB0 hg hB
  replace hb10 := keepO0 hg hb10
  replace hs6 := keepS0 hg hs6
  replace hs10 := keepS0 hg hs10
  clear hg hge14
  refine ⟨_, rfl, ?_⟩; intro a ha
  refine sv ha (r_assign ha rfl) rfl rfl rfl ?_; clear ha a; intro a ha
  refine hK12 _ _ ?_; clear hK12 K11
  refine wp_seq_k fun K15 hK16 => ?_
  refine region ?_
  refine sc ha (r_call ha [(.slice none 0 0)] rfl Tryd.call23) rfl rfl rfl (c_sum512 (.slice none 0 0) ([] : List UInt8) _ (Sl.nil _) (glob_keep hG hB)) ?_
  clear ha a
  rintro e w17 ⟨u18, rfl, hBc, hs18, hd18⟩
  have hg := grown_call hBc; clear hBc
  have hnb_hs18_b10 : ∀ j, u18.ownBlock = some j → j ≠ b10 := fun j hj => by have h1 := hd18 j hj; have h2 := lt_of_block hb10; omega
  have hnb_hs18_b14 : ∀ j, u18.ownBlock = some j → j ≠ b14 := fun j hj => by have h1 := hd18 j hj; have h2 := lt_of_block hb14; omega
  have hds_hs18_hs6 : ∀ j, u18.ownBlock = some j → u6.ownBlock ≠ some j := fun j h1 h2 => by have h3 := hd18 j h1; have h4 := (fun j hj => hs6.lt j hj) j h2; omega
  have hds_hs18_hs10 : ∀ j, u18.ownBlock = some j → u10.ownBlock ≠ some j := fun j h1 h2 => by have h3 := hd18 j h1; have h4 := (fun j hj => hs10.lt j hj) j h2; omega
  have hds_hs18_hs14 : ∀ j, u18.ownBlock = some j → u14.ownBlock ≠ some j := fun j h1 h2 => by have h3 := hd18 j h1; have h4 := (fun j hj => hs14.lt j hj) j h2; omega
  replace hd18 : ∀ j, u18.ownBlock = some j → w0.heap.size ≤ j := fun j hj => Nat.le_trans hB.size (hd18 j hj)
  replace hB := keepB0 hg hB
  replace hb10 := keepO0 hg hb10
  replace hb14 := keepO0 hg hb14
  replace hs6 := keepS0 hg hs6
  replace hs10 := keepS0 hg hs10
  replace hs14 := keepS0 hg hs14
  clear hg
  refine ⟨_, rfl, ?_⟩; intro a ha
  refine sv ha (r_assign ha rfl) rfl rfl rfl ?_; clear ha a; intro a ha
  refine hK16 _ _ ?_; clear hK16 K15
  refine wp_seq_k fun K19 hK20 => ?_
  refine region ?_
  refine sc ha (r_call ha [en 136, e8 (6 : UInt8), (.slice none 0 0)] rfl Tryd.call19) rfl rfl rfl (c_absN 136 (6 : UInt8) (.slice none 0 0) ([] : List UInt8) _ (by omega) (Sl.nil _) (glob_keep hG hB)) ?_
  clear ha a
  rintro e w21 ⟨rfl, hBc⟩
  have hg := grown_call hBc; clear hBc
  replace hB := keepB0 hg hB
  replace hb10 := keepO0 hg hb10
  replace hb14 := keepO0 hg hb14
  replace hs6 := keepS0 hg hs6
  replace hs10 := keepS0 hg hs10
  replace hs14 := keepS0 hg hs14
  replace hs18 := keepS0 hg hs18
  clear hg
  refine ⟨_, rfl, ?_⟩; intro a ha
  refine salloc ha zero_26Q6 rfl ?_
  clear ha a; intro a w22 b23 ha hg hb23 hge23 hlt23
  have hz23 : w0.heap.size ≤ b23 := Nat.le_trans hB.size hge23
  have hne_hs6_b23 : ∀ j, Value.ownBlock u6 = some j → j ≠ b23 := fun j hj => by have := hs6.lt j hj; omega
  have hne_hs10_b23 : ∀ j, Value.ownBlock u10 = some j → j ≠ b23 := fun j hj => by have := hs10.lt j hj; omega
  have hne_hs14_b23 : ∀ j, Value.ownBlock u14 = some j → j ≠ b23 := fun j hj => by have := hs14.lt j hj; omega
  have hne_hs18_b23 : ∀ j, Value.ownBlock u18 = some j → j ≠ b23 := fun j hj => by have := hs18.lt j hj; omega
  have hq10_23 : b10 < b23 := Nat.lt_of_lt_of_le (lt_of_block hb10) hge23
  have hq14_23 : b14 < b23 := Nat.lt_of_lt_of_le (lt_of_block hb14) hge23
  replace hB := keepB0 hg hB
  replace hb10 := keepO0 hg hb10
  replace hb14 := keepO0 hg hb14
  replace hs6 := keepS0 hg hs6
  replace hs10 := keepS0 hg hs10
  replace hs14 := keepS0 hg hs14
  replace hs18 := keepS0 hg hs18
  clear hg hge23 hlt23
  refine sstoreW ha rfl rfl (one_e64 _) Tryd.sizeOf26 (by rw [List.length_map, absR_len]) hb23 (by rw [List.length_map, List.length_replicate]) ?_
  clear ha a; intro a w24 ha hg hb23'
  clear hb23; have hb23 := hb23'; clear hb23'
  replace hB := keepB1 hg (by omega) hB
  replace hb10 := keepO1 hg (by omega) hb10
  replace hb14 := keepO1 hg (by omega) hb14
  replace hs6 := keepS1 hg (ne_of_ap hne_hs6_b23) hs6
  replace hs10 := keepS1 hg (ne_of_ap hne_hs10_b23) hs10
  replace hs14 := keepS1 hg (ne_of_ap hne_hs14_b23) hs14
  replace hs18 := keepS1 hg (ne_of_ap hne_hs18_b23) hs18
  clear hg
  refine hK20 _ _ ?_; clear hK20 K19
  refine wp_seq_k fun K25 hK26 => ?_
  refine wp_seq_k fun K27 hK28 => ?_
  refine region ?_
  refine sv ha (r_move ha rfl) rfl rfl rfl ?_; clear ha a; intro a ha
  refine sv ha (r_eqlP ha false Tryd.runUnderlying34 rfl rfl rfl) rfl rfl rfl ?_; clear ha a; intro a ha
  refine sv ha (r_move ha rfl) rfl rfl rfl ?_; clear ha a; intro a ha
  refine svg ha (r_move ha rfl) rfl rfl rfl rfl rfl ?_; clear ha a; intro a ha
  refine svg ha (r_eqlP ha false Tryd.runUnderlying34 rfl rfl rfl) rfl rfl rfl rfl rfl ?_; clear ha a; intro a ha
  refine sv ha (r_pick ha false rfl rfl) rfl rfl rfl ?_; clear ha a; intro a ha
  refine sv ha (r_move ha rfl) rfl rfl rfl ?_; clear ha a; intro a ha
  refine svg ha (r_move ha rfl) rfl rfl rfl rfl rfl ?_; clear ha a; intro a ha
  refine svg ha (r_lenS ha Tryd.runUnderlying22 hs6 rfl (by rw [List.length_map])) rfl rfl rfl rfl rfl ?_; clear ha a; intro a ha
  refine svg ha (r_neq ha ((32 : Nat) : Int) 32 false rfl rfl (decide_eq_false (by omega))) rfl rfl rfl rfl rfl ?_; clear ha a; intro a ha
  refine sv ha (r_pick ha false rfl rfl) rfl rfl rfl ?_; clear ha a; intro a ha
  refine sv ha (r_move ha rfl) rfl rfl rfl ?_; clear ha a; intro a ha
  refine svg ha (r_move ha rfl) rfl rfl rfl rfl rfl ?_; clear ha a; intro a ha
  refine svg ha (r_lenS ha Tryd.runUnderlying22 hs18 rfl (by rw [List.length_map])) rfl rfl rfl rfl rfl ?_; clear ha a; intro a ha
  refine svg ha (r_neq ha ((64 : Nat) : Int) 64 false rfl rfl (decide_eq_false (by omega))) rfl rfl rfl rfl rfl ?_; clear ha a; intro a ha
  refine sv ha (r_pick ha false rfl rfl) rfl rfl rfl ?_; clear ha a; intro a ha
  refine hK28 _ _ ?_; clear hK28 K27
  refine cond_f ha rfl ?_
  refine wp_skip ?_
  refine hK26 _ _ ?_; clear hK26 K25
  refine wp_seq_k fun K29 hK30 => ?_
  refine region ?_
  refine sv ha (r_move ha rfl) rfl rfl rfl ?_; clear ha a; intro a ha
  refine sc ha (r_call ha [.pointer (some ⟨b10, 0, none⟩), ei 4] rfl Tryd.call27) rfl rfl rfl (c_read b10 (absR 168 31 noughts ([] : List UInt8)) 168 u10 (tk (absR 168 31 noughts ([] : List UInt8)) 168) 4 _ hb10 (by rw [absR_len]) hs10 hnx10 (by omega) (by rw [tk_len _ _ (by omega)]; omega) (by omega) (fun _ hg => glob_keep hG (keepB1 hg (hz10) hB))) ?_
  clear ha a
  rintro e w31 ⟨u32, v32, rfl, hg, hb10', hsv32, hov32, ho32, hds_ho32_hsv32⟩
  have hnb_ho32_b10 : ∀ j, u32.ownBlock = some j → j ≠ b10 := fun j hj => by have h1 := (own_row ho32) j hj; have h2 := lt_of_block hb10; omega
  have hnb_ho32_b14 : ∀ j, u32.ownBlock = some j → j ≠ b14 := fun j hj => by have h1 := (own_row ho32) j hj; have h2 := lt_of_block hb14; omega
  have hnb_ho32_b23 : ∀ j, u32.ownBlock = some j → j ≠ b23 := fun j hj => by have h1 := (own_row ho32) j hj; have h2 := lt_of_block hb23; omega
  have hds_ho32_hs6 : ∀ j, u32.ownBlock = some j → u6.ownBlock ≠ some j := fun j h1 h2 => by have h3 := (own_row ho32) j h1; have h4 := (fun j hj => hs6.lt j hj) j h2; omega
  have hds_ho32_hs10 : ∀ j, u32.ownBlock = some j → u10.ownBlock ≠ some j := fun j h1 h2 => by have h3 := (own_row ho32) j h1; have h4 := (fun j hj => hs10.lt j hj) j h2; omega
  have hds_ho32_hs14 : ∀ j, u32.ownBlock = some j → u14.ownBlock ≠ some j := fun j h1 h2 => by have h3 := (own_row ho32) j h1; have h4 := (fun j hj => hs14.lt j hj) j h2; omega
  have hds_ho32_hs18 : ∀ j, u32.ownBlock = some j → u18.ownBlock ≠ some j := fun j h1 h2 => by have h3 := (own_row ho32) j h1; have h4 := (fun j hj => hs18.lt j hj) j h2; omega
  have hnb_hsv32_b10 : ∀ j, v32.ownBlock = some j → j ≠ b10 := fun j hj => (hov32 j hj).elim (fun h => hnx10 j h) (fun h => by have := lt_of_block hb10; omega)
  have hnb_hsv32_b14 : ∀ j, v32.ownBlock = some j → j ≠ b14 := fun j hj => (hov32 j hj).elim (fun h => hne_hs10_b14 j h) (fun h => by have := lt_of_block hb14; omega)
  have hnb_hsv32_b23 : ∀ j, v32.ownBlock = some j → j ≠ b23 := fun j hj => (hov32 j hj).elim (fun h => hne_hs10_b23 j h) (fun h => by have := lt_of_block hb23; omega)
  have hdv32 : ∀ j, v32.ownBlock = some j → w0.heap.size ≤ j := fun j hj => (hov32 j hj).elim (fun h => hd10 j h) (fun h => Nat.le_trans hB.size h)
  replace ho32 := own_base ho32 hB.size
  clear hb10; have hb10 := hb10'; clear hb10'
  replace hB := keepB1 hg (by omega) hB
  replace hb14 := keepO1 hg (by omega) hb14
  replace hb23 := keepO1 hg (by omega) hb23
  replace hs6 := keepS1 hg (ne_of_ap hne_hs6_b10) hs6
  replace hs14 := keepS1 hg (ne_of_ap hnb_hs14_b10) hs14
  replace hs18 := keepS1 hg (ne_of_ap hnb_hs18_b10) hs18
  clear hg
  refine ⟨_, rfl, ?_⟩; intro a ha
  refine sv ha (r_assign ha rfl) rfl rfl rfl ?_; clear ha a; intro a ha
  refine hK30 _ _ ?_; clear hK30 K29
  refine wp_seq_k fun K33 hK34 => ?_
  refine region ?_
  refine sv ha (r_move ha rfl) rfl rfl rfl ?_; clear ha a; intro a ha
  refine sc ha (r_call ha [.pointer (some ⟨b14, 0, none⟩), ei 4] rfl Tryd.call27) rfl rfl rfl (c_read b14 (absR 136 31 noughts ([] : List UInt8)) 136 u14 (tk (absR 136 31 noughts ([] : List UInt8)) 136) 4 _ hb14 (by rw [absR_len]) hs14 hnx14 (by omega) (by rw [tk_len _ _ (by omega)]; omega) (by omega) (fun _ hg => glob_keep hG (keepB1 hg (hz14) hB))) ?_
  clear ha a
  rintro e w35 ⟨u36, v36, rfl, hg, hb14', hsv36, hov36, ho36, hds_ho36_hsv36⟩
  have hnb_ho36_b10 : ∀ j, u36.ownBlock = some j → j ≠ b10 := fun j hj => by have h1 := (own_row ho36) j hj; have h2 := lt_of_block hb10; omega
  have hnb_ho36_b14 : ∀ j, u36.ownBlock = some j → j ≠ b14 := fun j hj => by have h1 := (own_row ho36) j hj; have h2 := lt_of_block hb14; omega
  have hnb_ho36_b23 : ∀ j, u36.ownBlock = some j → j ≠ b23 := fun j hj => by have h1 := (own_row ho36) j hj; have h2 := lt_of_block hb23; omega
  have hds_ho36_hs6 : ∀ j, u36.ownBlock = some j → u6.ownBlock ≠ some j := fun j h1 h2 => by have h3 := (own_row ho36) j h1; have h4 := (fun j hj => hs6.lt j hj) j h2; omega
  have hds_ho36_hs14 : ∀ j, u36.ownBlock = some j → u14.ownBlock ≠ some j := fun j h1 h2 => by have h3 := (own_row ho36) j h1; have h4 := (fun j hj => hs14.lt j hj) j h2; omega
  have hds_ho36_hs18 : ∀ j, u36.ownBlock = some j → u18.ownBlock ≠ some j := fun j h1 h2 => by have h3 := (own_row ho36) j h1; have h4 := (fun j hj => hs18.lt j hj) j h2; omega
  have hds_ho36_hsv32 : ∀ j, u36.ownBlock = some j → v32.ownBlock ≠ some j := fun j h1 h2 => by have h3 := (own_row ho36) j h1; have h4 := (fun j hj => hsv32.lt j hj) j h2; omega
  have hds_ho36_ho32 : ∀ j, u36.ownBlock = some j → u32.ownBlock ≠ some j := fun j h1 h2 => by have h3 := (own_row ho36) j h1; have h4 := (fun j hj => (ho32.lt j hj).2) j h2; omega
  have hnb_hsv36_b10 : ∀ j, v36.ownBlock = some j → j ≠ b10 := fun j hj => (hov36 j hj).elim (fun h => hnb_hs14_b10 j h) (fun h => by have := lt_of_block hb10; omega)
  have hnb_hsv36_b14 : ∀ j, v36.ownBlock = some j → j ≠ b14 := fun j hj => (hov36 j hj).elim (fun h => hnx14 j h) (fun h => by have := lt_of_block hb14; omega)
  have hnb_hsv36_b23 : ∀ j, v36.ownBlock = some j → j ≠ b23 := fun j hj => (hov36 j hj).elim (fun h => hne_hs14_b23 j h) (fun h => by have := lt_of_block hb23; omega)
  have hds_hsv36_ho32 : ∀ j, v36.ownBlock = some j → u32.ownBlock ≠ some j := fun j h1 h2 => (hov36 j h1).elim (fun h => (fun j h1 h2 => hds_ho32_hs14 j h2 h1) j h h2) (fun h => by have h4 := (fun j hj => (ho32.lt j hj).2) j h2; omega)
  have hdv36 : ∀ j, v36.ownBlock = some j → w0.heap.size ≤ j := fun j hj => (hov36 j hj).elim (fun h => hd14 j h) (fun h => Nat.le_trans hB.size h)
  replace ho36 := own_base ho36 hB.size
  clear hb14; have hb14 := hb14'; clear hb14'
  replace hB := keepB1 hg (by omega) hB
  replace hb10 := keepO1 hg (by omega) hb10
  replace hb23 := keepO1 hg (by omega) hb23
  replace hs6 := keepS1 hg (ne_of_ap hne_hs6_b14) hs6
  replace hs18 := keepS1 hg (ne_of_ap hnb_hs18_b14) hs18
  replace hsv32 := keepS1 hg (ne_of_ap hnb_hsv32_b14) hsv32
  replace ho32 := keepW1 hg (ne_of_ap hnb_ho32_b14) ho32
  clear hg
  refine ⟨_, rfl, ?_⟩; intro a ha
  refine sv ha (r_assign ha rfl) rfl rfl rfl ?_; clear ha a; intro a ha
  refine hK34 _ _ ?_; clear hK34 K33
  refine wp_seq_k fun K37 hK38 => ?_
  refine region ?_
  refine sv ha (r_move ha rfl) rfl rfl rfl ?_; clear ha a; intro a ha
  refine sv ha (r_resl (C := (sum256 ([] : List UInt8)).map e8) ha 0 4 Tryd.runUnderlying22 Tryd.sizeOf5 hs6 rfl rfl rfl (by omega) (by rw [List.length_map]; exact (by rw [sum256_len]; omega))) rfl rfl rfl ?_; clear ha a; intro a ha
  refine sv ha (r_str (l := ((sum256 ([] : List UInt8)).drop 0).take (4 - 0)) ha Tryd.underlying22 Tryd.underlying5 Tryd.underlying9 rfl (Sl.cutM (lo := 0) (hi := 4) hs6 (by omega) (by rw [sum256_len]; omega))) rfl rfl rfl ?_; clear ha a; intro a ha
  refine sv ha (r_eqlS ha (((sum256 ([] : List UInt8)).drop 0).take (4 - 0)) ([167, 255, 198, 248] : List UInt8) true rfl rfl (decide_eq_true aw_a)) rfl rfl rfl ?_; clear ha a; intro a ha
  refine sv ha (r_move ha rfl) rfl rfl rfl ?_; clear ha a; intro a ha
  refine svg ha (r_move ha rfl) rfl rfl rfl rfl rfl ?_; clear ha a; intro a ha
  refine svg ha (r_resl (C := (sum512 ([] : List UInt8)).map e8) ha 0 4 Tryd.runUnderlying22 Tryd.sizeOf5 hs18 rfl rfl rfl (by omega) (by rw [List.length_map]; exact (by rw [sum512_len]; omega))) rfl rfl rfl rfl rfl ?_; clear ha a; intro a ha
  refine svg ha (r_str (l := ((sum512 ([] : List UInt8)).drop 0).take (4 - 0)) ha Tryd.underlying22 Tryd.underlying5 Tryd.underlying9 rfl (Sl.cutM (lo := 0) (hi := 4) hs18 (by omega) (by rw [sum512_len]; omega))) rfl rfl rfl rfl rfl ?_; clear ha a; intro a ha
  refine svg ha (r_eqlS ha (((sum512 ([] : List UInt8)).drop 0).take (4 - 0)) ([166, 159, 115, 204] : List UInt8) true rfl rfl (decide_eq_true aw_b)) rfl rfl rfl rfl rfl ?_; clear ha a; intro a ha
  refine sv ha (r_pick ha true rfl rfl) rfl rfl rfl ?_; clear ha a; intro a ha
  refine sv ha (r_move ha rfl) rfl rfl rfl ?_; clear ha a; intro a ha
  refine svg ha (r_move ha rfl) rfl rfl rfl rfl rfl ?_; clear ha a; intro a ha
  refine svg ha (r_str (l := (xrun 168 (4 : Int).toNat (absR 168 31 noughts ([] : List UInt8), tk (absR 168 31 noughts ([] : List UInt8)) 168, [])).2.2) ha Tryd.underlying22 Tryd.underlying5 Tryd.underlying9 rfl (Sl.ofOwns ho32)) rfl rfl rfl rfl rfl ?_; clear ha a; intro a ha
  refine svg ha (r_eqlS ha ((xrun 168 (4 : Int).toNat (absR 168 31 noughts ([] : List UInt8), tk (absR 168 31 noughts ([] : List UInt8)) 168, [])).2.2) ([127, 156, 43, 164] : List UInt8) true rfl rfl (decide_eq_true aw_x)) rfl rfl rfl rfl rfl ?_; clear ha a; intro a ha
  refine sv ha (r_pick ha true rfl rfl) rfl rfl rfl ?_; clear ha a; intro a ha
  refine sv ha (r_move ha rfl) rfl rfl rfl ?_; clear ha a; intro a ha
  refine svg ha (r_move ha rfl) rfl rfl rfl rfl rfl ?_; clear ha a; intro a ha
  refine svg ha (r_str (l := (xrun 136 (4 : Int).toNat (absR 136 31 noughts ([] : List UInt8), tk (absR 136 31 noughts ([] : List UInt8)) 136, [])).2.2) ha Tryd.underlying22 Tryd.underlying5 Tryd.underlying9 rfl (Sl.ofOwns ho36)) rfl rfl rfl rfl rfl ?_; clear ha a; intro a ha
  refine svg ha (r_eqlS ha ((xrun 136 (4 : Int).toNat (absR 136 31 noughts ([] : List UInt8), tk (absR 136 31 noughts ([] : List UInt8)) 136, [])).2.2) ([70, 185, 221, 43] : List UInt8) true rfl rfl (decide_eq_true aw_y)) rfl rfl rfl rfl rfl ?_; clear ha a; intro a ha
  refine sv ha (r_pick ha true rfl rfl) rfl rfl rfl ?_; clear ha a; intro a ha
  refine sv ha (r_move ha rfl) rfl rfl rfl ?_; clear ha a; intro a ha
  refine svg ha (r_indexArr (i := 0) ha 0 Tryd.runUnderlying26 Tryd.sizeOf25 rfl rfl (by omega) (by omega)) rfl rfl rfl rfl rfl ?_; clear ha a; intro a ha
  refine svg ha (r_load ha rfl Tryd.isAgg25 (cell_of hb23 (get_map e64 (absR 136 (6 : UInt8) noughts ([] : List UInt8)) 0 0 (by rw [absR_len]; omega)))) rfl rfl rfl rfl rfl ?_; clear ha a; intro a ha
  refine svg ha (ru_and ha ((absR 136 (6 : UInt8) noughts ([] : List UInt8)).getD 0 0) (255 : UInt64) rfl rfl) rfl rfl rfl rfl rfl ?_; clear ha a; intro a ha
  refine svg ha (r_eql ha ((((absR 136 (6 : UInt8) noughts ([] : List UInt8)).getD 0 0) &&& (255 : UInt64)).toNat : Int) 167 true rfl rfl (decide_eq_true (by rw [aw_c]; rfl))) rfl rfl rfl rfl rfl ?_; clear ha a; intro a ha
  refine sv ha (r_pick ha true rfl rfl) rfl rfl rfl ?_; clear ha a; intro a ha
  refine sv ha (r_assign ha rfl) rfl rfl rfl ?_; clear ha a; intro a ha
  refine hK38 _ _ ?_; clear hK38 K37
  refine wp_ret ?_
  repeat (first | (with_reducible refine t_ret ?_) | (with_reducible refine x_ret ?_))
  exact ret1 ha Tryd.results17 rfl ⟨rfl, hB⟩

theorem law_SpongeAbsorbs (rate : Int) (s : UInt8) (v : Value) (b : List UInt8) (w0 : World) (hs : Sl w0 v (b.map e8)) (hG : Glob w0) :
    Calls Tryd.prog 3 #[ei rate, e8 s, v] w0 fun e w' => e = .returned (.bool true) ∧ Below w0.heap.size w0 w' := by
  refine enter (args := [_, _, _]) Tryd.func3 rfl Tryd.ntmps3 rfl ?_
  intro a ha
  have hB := Below.refl w0.heap.size w0
  refine wp_seq_k fun K1 hK2 => ?_
  refine region ?_
  refine sv ha (r_assign ha rfl) rfl rfl rfl ?_; clear ha a; intro a ha
  refine hK2 _ _ ?_; clear hK2 K1
  refine wp_seq_k fun K3 hK4 => ?_
  refine region ?_
  refine sc ha (r_call ha [] rfl Tryd.call17) rfl rfl rfl (c_awake03  _ (glob_keep hG hB)) ?_
  clear ha a
  rintro e w5 ⟨rfl, hBc⟩
  have hg := grown_call hBc; clear hBc
  replace hB := keepB0 hg hB
  clear hg
  refine ⟨_, rfl, ?_⟩; intro a ha
  refine sv ha (r_assign ha rfl) rfl rfl rfl ?_; clear ha a; intro a ha
  refine hK4 _ _ ?_; clear hK4 K3
  refine wp_seq_k fun K6 hK7 => ?_
  refine wp_seq_k fun K8 hK9 => ?_
  refine region ?_
  refine sv ha (r_move ha rfl) rfl rfl rfl ?_; clear ha a; intro a ha
  refine sv ha (r_not ha true false rfl rfl) rfl rfl rfl ?_; clear ha a; intro a ha
  refine hK9 _ _ ?_; clear hK9 K8
  refine cond_f ha rfl ?_
  refine wp_skip ?_
  refine hK7 _ _ ?_; clear hK7 K6
  refine wp_seq_k fun K10 hK11 => ?_
  refine wp_seq_k fun K12 hK13 => ?_
  refine region ?_
  refine sv ha (r_move ha rfl) rfl rfl rfl ?_; clear ha a; intro a ha
  refine sv ha (r_lenS ha Tryd.runUnderlying22 (hs.below hB) rfl (by rw [List.length_map])) rfl rfl rfl ?_; clear ha a; intro a ha
  refine sv ha (r_gtr ha ((b.length : Nat) : Int) 2000 (decide (b.length > 2000)) rfl rfl (decide_eq_decide.2 (by omega))) rfl rfl rfl ?_; clear ha a; intro a ha
  refine hK13 _ _ ?_; clear hK13 K12
  refine cond_if ha rfl (fun hc14 => ?_) (fun hc14 => ?_)
  · skip
    replace hc14 := of_decide_eq_true hc14
    refine wp_seq_k fun K15 hK16 => ?_
    refine region ?_
    refine sv ha (r_assign ha rfl) rfl rfl rfl ?_; clear ha a; intro a ha
    refine hK16 _ _ ?_; clear hK16 K15
    refine wp_ret ?_
    repeat (first | (with_reducible refine t_ret ?_) | (with_reducible refine x_ret ?_))
    exact ret1 ha Tryd.results3 rfl ⟨rfl, hB⟩
  · skip
    replace hc14 := of_decide_eq_false hc14
    refine wp_skip ?_
    refine hK11 _ _ ?_; clear hK11 K10
    refine wp_seq_k fun K17 hK18 => ?_
    refine region ?_
    refine sv ha (r_move ha rfl) rfl rfl rfl ?_; clear ha a; intro a ha
    refine sv ha (r_move ha rfl) rfl rfl rfl ?_; clear ha a; intro a ha
    refine sv ha (r_move ha rfl) rfl rfl rfl ?_; clear ha a; intro a ha
    refine sc ha (r_call ha [ei rate, e8 s, v] rfl Tryd.call19) rfl rfl rfl (c_absZ rate s v b _ (hs.below hB) (glob_keep hG hB)) ?_
    clear ha a
    rintro e w19 ⟨rfl, hBc⟩
    have hg := grown_call hBc; clear hBc
    replace hB := keepB0 hg hB
    clear hg
    refine ⟨_, rfl, ?_⟩; intro a ha
    refine sv ha (r_move ha rfl) rfl rfl rfl ?_; clear ha a; intro a ha
    refine sv ha (r_move ha rfl) rfl rfl rfl ?_; clear ha a; intro a ha
    refine sv ha (r_move ha rfl) rfl rfl rfl ?_; clear ha a; intro a ha
    refine sc ha (r_call ha [ei rate, e8 s, v] rfl Tryd.call20) rfl rfl rfl (c_rabsZ rate s v b _ (hs.below hB) (by omega)) ?_
    clear ha a
    rintro e w20 ⟨u21, rfl, hBc, hs21, hd21⟩
    have hg := grown_call hBc; clear hBc
    replace hd21 : ∀ j, u21.ownBlock = some j → w0.heap.size ≤ j := fun j hj => Nat.le_trans hB.size (hd21 j hj)
    replace hB := keepB0 hg hB
    clear hg
    refine ⟨_, rfl, ?_⟩; intro a ha
    refine sc ha (r_call ha [.agg (((absZ rate s b)).map e64).toArray, u21] rfl Tryd.call18) rfl rfl rfl (c_same u21 (absZ rate s b) (absZ rate s b) _ (by rw [absZ_len]) hs21 (by rw [absZ_len])) ?_
    clear ha a
    rintro e w22 ⟨rfl, hBc⟩
    have hg := grown_call hBc; clear hBc
    replace hB := keepB0 hg hB
    replace hs21 := keepS0 hg hs21
    clear hg
    refine ⟨_, rfl, ?_⟩; intro a ha
    rw [show (decide ((absZ rate s b) = (absZ rate s b))) = true from (decide_eq_true rfl)] at ha
    refine sv ha (r_assign ha rfl) rfl rfl rfl ?_; clear ha a; intro a ha
    refine hK18 _ _ ?_; clear hK18 K17
    refine wp_ret ?_
    repeat (first | (with_reducible refine t_ret ?_) | (with_reducible refine x_ret ?_))
    exact ret1 ha Tryd.results3 rfl ⟨rfl, hB⟩

theorem law_SpongeSums (v : Value) (b : List UInt8) (w0 : World) (hs : Sl w0 v (b.map e8)) (hG : Glob w0) :
    Calls Tryd.prog 4 #[v] w0 fun e w' => e = .returned (.bool true) ∧ Below w0.heap.size w0 w' := by
  refine enter (args := [_]) Tryd.func4 rfl Tryd.ntmps4 rfl ?_
  intro a ha
  have hB := Below.refl w0.heap.size w0
  refine wp_seq_k fun K1 hK2 => ?_
  refine region ?_
  refine sv ha (r_assign ha rfl) rfl rfl rfl ?_; clear ha a; intro a ha
  refine hK2 _ _ ?_; clear hK2 K1
  refine wp_seq_k fun K3 hK4 => ?_
  refine region ?_
  refine sc ha (r_call ha [] rfl Tryd.call17) rfl rfl rfl (c_awake03  _ (glob_keep hG hB)) ?_
  clear ha a
  rintro e w5 ⟨rfl, hBc⟩
  have hg := grown_call hBc; clear hBc
  replace hB := keepB0 hg hB
  clear hg
  refine ⟨_, rfl, ?_⟩; intro a ha
  refine sv ha (r_assign ha rfl) rfl rfl rfl ?_; clear ha a; intro a ha
  refine hK4 _ _ ?_; clear hK4 K3
  refine wp_seq_k fun K6 hK7 => ?_
  refine wp_seq_k fun K8 hK9 => ?_
  refine region ?_
  refine sv ha (r_move ha rfl) rfl rfl rfl ?_; clear ha a; intro a ha
  refine sv ha (r_not ha true false rfl rfl) rfl rfl rfl ?_; clear ha a; intro a ha
  refine hK9 _ _ ?_; clear hK9 K8
  refine cond_f ha rfl ?_
  refine wp_skip ?_
  refine hK7 _ _ ?_; clear hK7 K6
  refine wp_seq_k fun K10 hK11 => ?_
  refine wp_seq_k fun K12 hK13 => ?_
  refine region ?_
  refine sv ha (r_move ha rfl) rfl rfl rfl ?_; clear ha a; intro a ha
  refine sv ha (r_lenS ha Tryd.runUnderlying22 (hs.below hB) rfl (by rw [List.length_map])) rfl rfl rfl ?_; clear ha a; intro a ha
  refine sv ha (r_gtr ha ((b.length : Nat) : Int) 3000 (decide (b.length > 3000)) rfl rfl (decide_eq_decide.2 (by omega))) rfl rfl rfl ?_; clear ha a; intro a ha
  refine hK13 _ _ ?_; clear hK13 K12
  refine cond_if ha rfl (fun hc14 => ?_) (fun hc14 => ?_)
  · skip
    replace hc14 := of_decide_eq_true hc14
    refine wp_seq_k fun K15 hK16 => ?_
    refine region ?_
    refine sv ha (r_assign ha rfl) rfl rfl rfl ?_; clear ha a; intro a ha
    refine hK16 _ _ ?_; clear hK16 K15
    refine wp_ret ?_
    repeat (first | (with_reducible refine t_ret ?_) | (with_reducible refine x_ret ?_))
    exact ret1 ha Tryd.results4 rfl ⟨rfl, hB⟩
  · skip
    replace hc14 := of_decide_eq_false hc14
    refine wp_skip ?_
    refine hK11 _ _ ?_; clear hK11 K10
    refine wp_seq_k fun K17 hK18 => ?_
    refine region ?_
    refine sv ha (r_move ha rfl) rfl rfl rfl ?_; clear ha a; intro a ha
    refine sv ha (r_str (l := b) ha Tryd.underlying22 Tryd.underlying5 Tryd.underlying9 rfl (hs.below hB)) rfl rfl rfl ?_; clear ha a; intro a ha
    refine sv ha (r_assign ha rfl) rfl rfl rfl ?_; clear ha a; intro a ha
    refine hK18 _ _ ?_; clear hK18 K17
    refine wp_seq_k fun K19 hK20 => ?_
    refine regionD (S := fun w => Below w0.heap.size w0 w ∧ True) [] [0, 3, 2, 5, 6, 7, 8, 11, 10, 13, 14, 15, 16, 17, 18, 19, 20, 21, 22] [0, 3, 1, 2, 4, 5, 6, 7, 8, 11, 9, 10, 12, 13, 14, 15, 16, 17, 18, 19, 20, 21, 22] mixed (by kernel_rfl) (fun w hg => ⟨keepB0 hg hB, trivial⟩) ?_
    intro w21 hg
    replace hB := keepB0 hg hB
    clear hg
    refine cv ha rfl rfl (fun w _ => r_move ha rfl) rfl rfl rfl ?_; clear ha a; intro a ha
    refine cv ha rfl rfl (fun w _ => r_move ha rfl) rfl rfl rfl ?_; clear ha a; intro a ha
    refine ccx ha rfl rfl (r_call ha [v] rfl Tryd.call21) rfl rfl rfl (c_sum256 v b _ (hs.below hB) (glob_keep hG hB)) ?_
    clear ha a
    rintro e w22 ⟨u23, rfl, hBc, hs23, hd23⟩
    have hg := grown_call hBc; clear hBc
    replace hd23 : ∀ j, u23.ownBlock = some j → w0.heap.size ≤ j := fun j hj => Nat.le_trans hB.size (hd23 j hj)
    replace hB := keepB0 hg hB
    clear hg
    refine ⟨fun w => (Sl w u23 ((sum256 b).map e8)) ∧ Below w0.heap.size w0 w ∧ True, fun w h => h.2, fun _ => ⟨hs23, hB, trivial⟩, _, rfl, ?_⟩; intro a ha
    refine cv ha rfl rfl (fun w ⟨hs23, hB, _⟩ => r_str (l := sum256 b) ha Tryd.underlying22 Tryd.underlying5 Tryd.underlying9 rfl hs23) rfl rfl rfl ?_; clear ha a; intro a ha
    refine ccx ha rfl rfl (r_call ha [v] rfl Tryd.call22) rfl rfl rfl (c_rsum256 v b _ (hs.below hB) (by omega)) ?_
    clear ha a
    rintro e w24 ⟨u25, rfl, hBc, hs25, hd25⟩
    have hg := grown_call hBc; clear hBc
    have hds_hs25_hs23 : ∀ j, u25.ownBlock = some j → u23.ownBlock ≠ some j := fun j h1 h2 => by have h3 := hd25 j h1; have h4 := (fun j hj => hs23.lt j hj) j h2; omega
    replace hd25 : ∀ j, u25.ownBlock = some j → w0.heap.size ≤ j := fun j hj => Nat.le_trans hB.size (hd25 j hj)
    replace hB := keepB0 hg hB
    replace hs23 := keepS0 hg hs23
    clear hg
    refine ⟨fun w => (Sl w u25 ((sum256 b).map e8)) ∧ (Sl w u23 ((sum256 b).map e8)) ∧ Below w0.heap.size w0 w ∧ True, fun w h => h.2, fun _ => ⟨hs25, hs23, hB, trivial⟩, _, rfl, ?_⟩; intro a ha
    refine cv ha rfl rfl (fun w ⟨hs25, hs23, hB, _⟩ => r_str (l := sum256 b) ha Tryd.underlying22 Tryd.underlying5 Tryd.underlying9 rfl hs25) rfl rfl rfl ?_; clear ha a; intro a ha
    refine cv ha rfl rfl (fun w _ => r_eqlS ha (sum256 b) (sum256 b) true rfl rfl (decide_eq_true rfl)) rfl rfl rfl ?_; clear ha a; intro a ha
    refine cv ha rfl rfl (fun w _ => r_move ha rfl) rfl rfl rfl ?_; clear ha a; intro a ha
    refine cvg ha rfl rfl (fun w _ => r_move ha rfl) rfl rfl rfl rfl rfl ?_; clear ha a; intro a ha
    refine cvg ha rfl rfl (fun w _ => r_move ha rfl) rfl rfl rfl rfl rfl ?_; clear ha a; intro a ha
    refine ccgx ha rfl rfl (r_call ha [v] rfl Tryd.call23) rfl rfl rfl rfl rfl (c_sum512 v b _ (hs.below hB) (glob_keep hG hB)) ?_
    clear ha a
    rintro e w26 ⟨u27, rfl, hBc, hs27, hd27⟩
    have hg := grown_call hBc; clear hBc
    have hds_hs27_hs23 : ∀ j, u27.ownBlock = some j → u23.ownBlock ≠ some j := fun j h1 h2 => by have h3 := hd27 j h1; have h4 := (fun j hj => hs23.lt j hj) j h2; omega
    have hds_hs27_hs25 : ∀ j, u27.ownBlock = some j → u25.ownBlock ≠ some j := fun j h1 h2 => by have h3 := hd27 j h1; have h4 := (fun j hj => hs25.lt j hj) j h2; omega
    replace hd27 : ∀ j, u27.ownBlock = some j → w0.heap.size ≤ j := fun j hj => Nat.le_trans hB.size (hd27 j hj)
    replace hB := keepB0 hg hB
    replace hs23 := keepS0 hg hs23
    replace hs25 := keepS0 hg hs25
    clear hg
    refine ⟨fun w => (Sl w u27 ((sum512 b).map e8)) ∧ (Sl w u25 ((sum256 b).map e8)) ∧ (Sl w u23 ((sum256 b).map e8)) ∧ Below w0.heap.size w0 w ∧ True, fun w h => h.2, fun _ => ⟨hs27, hs25, hs23, hB, trivial⟩, _, rfl, ?_⟩; intro a ha
    refine cvg ha rfl rfl (fun w ⟨hs27, hs25, hs23, hB, _⟩ => r_str (l := sum512 b) ha Tryd.underlying22 Tryd.underlying5 Tryd.underlying9 rfl hs27) rfl rfl rfl rfl rfl ?_; clear ha a; intro a ha
    refine ccgx ha rfl rfl (r_call ha [v] rfl Tryd.call24) rfl rfl rfl rfl rfl (c_rsum512 v b _ (hs.below hB) (by omega)) ?_
    clear ha a
    rintro e w28 ⟨u29, rfl, hBc, hs29, hd29⟩
    have hg := grown_call hBc; clear hBc
    have hds_hs29_hs23 : ∀ j, u29.ownBlock = some j → u23.ownBlock ≠ some j := fun j h1 h2 => by have h3 := hd29 j h1; have h4 := (fun j hj => hs23.lt j hj) j h2; omega
    have hds_hs29_hs25 : ∀ j, u29.ownBlock = some j → u25.ownBlock ≠ some j := fun j h1 h2 => by have h3 := hd29 j h1; have h4 := (fun j hj => hs25.lt j hj) j h2; omega
    have hds_hs29_hs27 : ∀ j, u29.ownBlock = some j → u27.ownBlock ≠ some j := fun j h1 h2 => by have h3 := hd29 j h1; have h4 := (fun j hj => hs27.lt j hj) j h2; omega
    replace hd29 : ∀ j, u29.ownBlock = some j → w0.heap.size ≤ j := fun j hj => Nat.le_trans hB.size (hd29 j hj)
    replace hB := keepB0 hg hB
    replace hs23 := keepS0 hg hs23
    replace hs25 := keepS0 hg hs25
    replace hs27 := keepS0 hg hs27
    clear hg
    refine ⟨fun w => (Sl w u29 ((sum512 b).map e8)) ∧ (Sl w u27 ((sum512 b).map e8)) ∧ (Sl w u25 ((sum256 b).map e8)) ∧ (Sl w u23 ((sum256 b).map e8)) ∧ Below w0.heap.size w0 w ∧ True, fun w h => h.2, fun _ => ⟨hs29, hs27, hs25, hs23, hB, trivial⟩, _, rfl, ?_⟩; intro a ha
    refine cvg ha rfl rfl (fun w ⟨hs29, hs27, hs25, hs23, hB, _⟩ => r_str (l := sum512 b) ha Tryd.underlying22 Tryd.underlying5 Tryd.underlying9 rfl hs29) rfl rfl rfl rfl rfl ?_; clear ha a; intro a ha
    refine cvg ha rfl rfl (fun w _ => r_eqlS ha (sum512 b) (sum512 b) true rfl rfl (decide_eq_true rfl)) rfl rfl rfl rfl rfl ?_; clear ha a; intro a ha
    refine cv ha rfl rfl (fun w _ => r_pick ha true rfl rfl) rfl rfl rfl ?_; clear ha a; intro a ha
    refine cv ha rfl rfl (fun w _ => r_move ha rfl) rfl rfl rfl ?_; clear ha a; intro a ha
    refine cvg ha rfl rfl (fun w _ => r_move ha rfl) rfl rfl rfl rfl rfl ?_; clear ha a; intro a ha
    refine cvg ha rfl rfl (fun w ⟨hs29, hs27, hs25, hs23, hB, _⟩ => r_str (l := b) ha Tryd.underlying22 Tryd.underlying5 Tryd.underlying9 rfl (hs.below hB)) rfl rfl rfl rfl rfl ?_; clear ha a; intro a ha
    refine cvg ha rfl rfl (fun w _ => r_move ha rfl) rfl rfl rfl rfl rfl ?_; clear ha a; intro a ha
    refine cvg ha rfl rfl (fun w _ => r_eqlS ha b b true rfl rfl (decide_eq_true rfl)) rfl rfl rfl rfl rfl ?_; clear ha a; intro a ha
    refine cv ha rfl rfl (fun w _ => r_pick ha true rfl rfl) rfl rfl rfl ?_; clear ha a; intro a ha
    refine cv ha rfl rfl (fun w _ => r_assign ha rfl) rfl rfl rfl ?_; clear ha a; intro a ha
    refine cfin (hK20 _ _ ?_); clear hK20 K19
    refine wp_ret ?_
    repeat (first | (with_reducible refine t_ret ?_) | (with_reducible refine x_ret ?_))
    exact ret1 ha Tryd.results4 rfl ⟨rfl, hB⟩
end Go.Proofs.YtdhgkfmniebghaaDoor
