/- WALKS written by gen.py (own program) out of specs. -/
import Derived.Test.YtaignhikdfpbbaaDoorK1
import Derived.Test.YtaignhikdfpbbaaDoorPr
import Derived.Test.YtaignhikdfpbbaaDoorPe
namespace Go.Proofs.YtaignhikdfpbbaaDoor
open Go.RowKit Go.Rx
set_option maxRecDepth 100000
set_option maxHeartbeats 4000000
set_option linter.unusedVariables false
set_option linter.unusedSimpArgs false

theorem c_lanes  (w0 : World) :
    Calls Tryd.prog 69 #[] w0 fun e w' => ∃ b, e = .returned (.slice (some ⟨b, 0, none⟩) 25 25) ∧ Below w0.heap.size w0 w' ∧ w'.heap[b]? = some (.cells ((List.replicate 25 (0 : UInt64)).map e64).toArray 83 (0, 0)) ∧ w0.heap.size ≤ b := by
  refine enter (args := []) Tryd.func69 rfl Tryd.ntmps69 rfl ?_
  intro a ha
  have hB := Below.refl w0.heap.size w0
  refine wp_seq_k fun K1 hK2 => ?_
  refine region ?_
  refine sv ha (r_assign ha rfl) rfl rfl rfl ?_; clear ha a; intro a ha
  refine hK2 _ _ ?_; clear hK2 K1
  refine wp_seq_k fun K3 hK4 => ?_
  refine region ?_
  refine smake (k := 25) ha rfl rfl Tryd.underlying54 rfl rfl rfl rfl (show 8 * _ ≤ _ by omega) (by omega) rfl ?_
  clear ha a; intro a w5 b6 ha hg hb6 hge6 hlt6
  have hz6 : w0.heap.size ≤ b6 := Nat.le_trans hB.size hge6
  replace hB := keepB0 hg hB
  clear hg hge6 hlt6
  rw [show (List.replicate 25 (Value.int .u64 0)) = (List.replicate 25 (0 : UInt64)).map e64 by rw [List.map_replicate]; rfl] at hb6
  refine sv ha (r_assign ha rfl) rfl rfl rfl ?_; clear ha a; intro a ha
  refine hK4 _ _ ?_; clear hK4 K3
  refine wp_ret ?_
  repeat (first | (with_reducible refine t_ret ?_) | (with_reducible refine x_ret ?_))
  exact ret1 ha Tryd.results69 rfl ⟨_, rfl, hB, hb6, hz6⟩

theorem c_rturn (x : UInt64) (k : Nat) (w0 : World) (hk : k < 64) :
    Calls Tryd.prog 71 #[e64 x, en k] w0 fun e w' => e = .returned (e64 (turnR x k)) ∧ Below w0.heap.size w0 w' := by
  refine enter (args := [_, _]) Tryd.func71 rfl Tryd.ntmps71 rfl ?_
  intro a ha
  have hB := Below.refl w0.heap.size w0
  refine wp_seq_k fun K1 hK2 => ?_
  refine region ?_
  refine sv ha (r_assign ha rfl) rfl rfl rfl ?_; clear ha a; intro a ha
  refine hK2 _ _ ?_; clear hK2 K1
  refine wp_seq_k fun K3 hK4 => ?_
  refine wp_seq_k fun K5 hK6 => ?_
  refine region ?_
  refine sv ha (r_move ha rfl) rfl rfl rfl ?_; clear ha a; intro a ha
  refine sv ha (r_eql ha ((k : Nat) : Int) 0 (decide (k = 0)) rfl rfl (decide_eq_decide.2 (by omega))) rfl rfl rfl ?_; clear ha a; intro a ha
  refine hK6 _ _ ?_; clear hK6 K5
  refine cond_if ha rfl (fun hc7 => ?_) (fun hc7 => ?_)
  · skip
    replace hc7 := of_decide_eq_true hc7
    refine wp_seq_k fun K8 hK9 => ?_
    refine region ?_
    refine sv ha (r_move ha rfl) rfl rfl rfl ?_; clear ha a; intro a ha
    refine sv ha (r_assign ha rfl) rfl rfl rfl ?_; clear ha a; intro a ha
    refine hK9 _ _ ?_; clear hK9 K8
    refine wp_ret ?_
    repeat (first | (with_reducible refine t_ret ?_) | (with_reducible refine x_ret ?_))
    exact ret1 ha Tryd.results71 rfl ⟨(by unfold turnR; first | rw [if_pos (by assumption)] | rw [if_neg (by assumption)]), hB⟩
  · skip
    replace hc7 := of_decide_eq_false hc7
    refine wp_skip ?_
    refine hK4 _ _ ?_; clear hK4 K3
    refine wp_seq_k fun K10 hK11 => ?_
    refine region ?_
    refine sv ha (r_move ha rfl) rfl rfl rfl ?_; clear ha a; intro a ha
    refine sv ha (r_move ha rfl) rfl rfl rfl ?_; clear ha a; intro a ha
    refine sv ha (r_conv_n_u64 ha k Tryd.runUnderlying3 Tryd.runUnderlying45 rfl (by omega)) rfl rfl rfl ?_; clear ha a; intro a ha
    refine sv ha (ru_shl ha x k rfl rfl (by omega)) rfl rfl rfl ?_; clear ha a; intro a ha
    refine sv ha (r_move ha rfl) rfl rfl rfl ?_; clear ha a; intro a ha
    refine sv ha (r_move ha rfl) rfl rfl rfl ?_; clear ha a; intro a ha
    refine sv ha (rn_sub ha 64 k rfl rfl (by omega) (by omega)) rfl rfl rfl ?_; clear ha a; intro a ha
    refine sv ha (r_conv_n_u64 ha (64 - k) Tryd.runUnderlying3 Tryd.runUnderlying45 rfl (by omega)) rfl rfl rfl ?_; clear ha a; intro a ha
    refine sv ha (ru_shr ha x (64 - k) rfl rfl (by omega)) rfl rfl rfl ?_; clear ha a; intro a ha
    refine sv ha (ru_add ha (x <<< UInt64.ofNat k) (x >>> UInt64.ofNat (64 - k)) rfl rfl) rfl rfl rfl ?_; clear ha a; intro a ha
    refine sv ha (r_assign ha rfl) rfl rfl rfl ?_; clear ha a; intro a ha
    refine hK11 _ _ ?_; clear hK11 K10
    refine wp_ret ?_
    repeat (first | (with_reducible refine t_ret ?_) | (with_reducible refine x_ret ?_))
    exact ret1 ha Tryd.results71 rfl ⟨(by unfold turnR; first | rw [if_pos (by assumption)] | rw [if_neg (by assumption)]), hB⟩

theorem c_rconsts  (w0 : World) :
    Calls Tryd.prog 70 #[] w0 fun e w' => ∃ b, e = .returned (.slice (some ⟨b, 0, none⟩) 24 24) ∧ Below w0.heap.size w0 w' ∧ w'.heap[b]? = some (.cells ((consts).map e64).toArray 83 (0, 0)) ∧ w0.heap.size ≤ b := by
  refine enter (args := []) Tryd.func70 rfl Tryd.ntmps70 rfl ?_
  intro a ha
  have hB := Below.refl w0.heap.size w0
  refine wp_seq_k fun K1 hK2 => ?_
  refine region ?_
  refine sv ha (r_assign ha rfl) rfl rfl rfl ?_; clear ha a; intro a ha
  refine hK2 _ _ ?_; clear hK2 K1
  refine wp_seq_k fun K3 hK4 => ?_
  refine region ?_
  refine sbuildS ha [(0, .int .u64 1), (1, .int .u64 32898), (2, .int .u64 9223372036854808714), (3, .int .u64 9223372039002292224), (4, .int .u64 32907), (5, .int .u64 2147483649), (6, .int .u64 9223372039002292353), (7, .int .u64 9223372036854808585), (8, .int .u64 138), (9, .int .u64 136), (10, .int .u64 2147516425), (11, .int .u64 2147483658), (12, .int .u64 2147516555), (13, .int .u64 9223372036854775947), (14, .int .u64 9223372036854808713), (15, .int .u64 9223372036854808579), (16, .int .u64 9223372036854808578), (17, .int .u64 9223372036854775936), (18, .int .u64 32778), (19, .int .u64 9223372039002259466), (20, .int .u64 9223372039002292353), (21, .int .u64 9223372036854808704), (22, .int .u64 2147483649), (23, .int .u64 9223372039002292232)] (([(1 : UInt64), (32898 : UInt64), (9223372036854808714 : UInt64), (9223372039002292224 : UInt64), (32907 : UInt64), (2147483649 : UInt64), (9223372039002292353 : UInt64), (9223372036854808585 : UInt64), (138 : UInt64), (136 : UInt64), (2147516425 : UInt64), (2147483658 : UInt64), (2147516555 : UInt64), (9223372036854775947 : UInt64), (9223372036854808713 : UInt64), (9223372036854808579 : UInt64), (9223372036854808578 : UInt64), (9223372036854775936 : UInt64), (32778 : UInt64), (9223372039002259466 : UInt64), (9223372039002292353 : UInt64), (9223372036854808704 : UInt64), (2147483649 : UInt64), (9223372039002292232 : UInt64)] : List UInt64).map e64) rfl Tryd.runUnderlying54 Tryd.sizeOf83 Tryd.zeroValue83 rfl rfl rfl rfl rfl ?_
  clear ha a; intro a w5 b6 ha hg hb6 hge6 hlt6
  have hz6 : w0.heap.size ≤ b6 := Nat.le_trans hB.size hge6
  replace hB := keepB0 hg hB
  clear hg hge6 hlt6
  refine sv ha (r_assign ha rfl) rfl rfl rfl ?_; clear ha a; intro a ha
  refine hK4 _ _ ?_; clear hK4 K3
  refine wp_ret ?_
  repeat (first | (with_reducible refine t_ret ?_) | (with_reducible refine x_ret ?_))
  exact ret1 ha Tryd.results70 rfl ⟨_, rfl, hB, hb6, hz6⟩

theorem c_rFast (v : Value) (l : List UInt64) (w0 : World) (hs : Sl w0 v (l.map e64)) (hl : l.length = 25) :
    Calls Tryd.prog 34 #[v] w0 fun e w' => ∃ b, e = .returned (.slice (some ⟨b, 0, none⟩) 25 25) ∧ Below w0.heap.size w0 w' ∧ w'.heap[b]? = some (.cells ((fast l).map e64).toArray 83 (0, 0)) ∧ w0.heap.size ≤ b := by
  refine enter (args := [_]) Tryd.func34 rfl Tryd.ntmps34 rfl ?_
  intro a ha
  have hB := Below.refl w0.heap.size w0
  refine wp_seq_k fun K1 hK2 => ?_
  refine region ?_
  refine sv ha (r_assign ha rfl) rfl rfl rfl ?_; clear ha a; intro a ha
  refine hK2 _ _ ?_; clear hK2 K1
  refine wp_seq_k fun K3 hK4 => ?_
  refine region ?_
  refine sc ha (r_call ha [] rfl Tryd.call69) rfl rfl rfl (c_lanes  _ ) ?_
  clear ha a
  rintro e w5 ⟨b6, rfl, hBc, hb6, hge6⟩
  have hg := grown_call hBc; clear hBc
  have hz6 : w0.heap.size ≤ b6 := Nat.le_trans hB.size hge6
  replace hB := keepB0 hg hB
  clear hg hge6
  refine ⟨_, rfl, ?_⟩; intro a ha
  refine sv ha (r_assign ha rfl) rfl rfl rfl ?_; clear ha a; intro a ha
  refine hK4 _ _ ?_; clear hK4 K3
  refine wp_seq_k fun K7 hK8 => ?_
  refine region ?_
  refine sv ha (r_move ha rfl) rfl rfl rfl ?_; clear ha a; intro a ha
  refine sv ha (r_move ha rfl) rfl rfl rfl ?_; clear ha a; intro a ha
  refine scopy (d := 20) (C := (l).map e64) (p := (l.take 25).map e64) ha rfl rfl (hs.below hB) Tryd.underlying54 rfl hb6 (by rw [List.map_take]) (by simp only [List.length_map, List.length_take, List.length_replicate]; omega) (one_e64 _) ?_ rfl rfl rfl
  clear ha a; intro a w9 ha hg hb6'
  rw [copy_all (by simp only [List.length_map, List.length_replicate]) (by rw [hl])] at hb6'
  clear hb6; have hb6 : w9.heap[b6]? = some (.cells ((l).map e64).toArray 83 (0, 0)) := hb6'; clear hb6'
  replace hB := keepB1 hg (by omega) hB
  clear hg
  refine hK8 _ _ ?_; clear hK8 K7
  refine wp_seq_k fun K10 hK11 => ?_
  refine region ?_
  refine sc ha (r_call ha [] rfl Tryd.call70) rfl rfl rfl (c_rconsts  _ ) ?_
  clear ha a
  rintro e w12 ⟨b13, rfl, hBc, hb13, hge13⟩
  have hg := grown_call hBc; clear hBc
  have hz13 : w0.heap.size ≤ b13 := Nat.le_trans hB.size hge13
  have hq6_13 : b6 < b13 := Nat.lt_of_lt_of_le (lt_of_block hb6) hge13
  replace hB := keepB0 hg hB
  replace hb6 := keepO0 hg hb6
  clear hg hge13
  refine ⟨_, rfl, ?_⟩; intro a ha
  refine sv ha (r_assign ha rfl) rfl rfl rfl ?_; clear ha a; intro a ha
  refine hK11 _ _ ?_; clear hK11 K10
  refine wp_seq_k fun K14 hK15 => ?_
  refine wp_seq_k fun K16 hK17 => ?_
  refine region ?_
  refine sv ha (r_assign ha rfl) rfl rfl rfl ?_; clear ha a; intro a ha
  refine hK17 _ _ ?_; clear hK17 K16
  refine wp_block ?_
  refine loopG (fun (i : Nat) a w => (i ≤ 24) ∧ Has 183 [(0, v), (2, .slice none 0 0), (17, .slice (some ⟨b6, 0, none⟩) 25 25), (3, .slice (some ⟨b6, 0, none⟩) 25 25), (18, .slice (some ⟨b6, 0, none⟩) 25 25), (19, v), (21, .slice (some ⟨b13, 0, none⟩) 24 24), (4, .slice (some ⟨b13, 0, none⟩) 24 24), (5, en i)] a ∧ Below w0.heap.size w0 w ∧ w.heap[b6]? = some (.cells ((fastA l i).map e64).toArray 83 (0, 0)) ∧ w.heap[b13]? = some (.cells ((consts).map e64).toArray 83 (0, 0))) (fun i => 24 - i) 0 ⟨(by omega), ha.to [0, 2, 17, 3, 18, 19, 21, 4, 5] rfl, hB, hb6, hb13⟩ ?_
  clear ha a hB hb6 hb13
  intro i a w18 ⟨hki, ha, hB, hb6, hb13⟩
  refine wp_seq_k fun K19 hK20 => ?_
  refine wp_seq_k fun K21 hK22 => ?_
  refine region ?_
  refine sv ha (r_move ha rfl) rfl rfl rfl ?_; clear ha a; intro a ha
  refine sv ha (r_lss ha ((i : Nat) : Int) 24 (decide (i < 24)) rfl rfl (decide_eq_decide.2 (by omega))) rfl rfl rfl ?_; clear ha a; intro a ha
  refine hK22 _ _ ?_; clear hK22 K21
  refine cond_if ha rfl (fun hc23 => ?_) (fun hc23 => ?_)
  · skip
    replace hc23 := of_decide_eq_true hc23
    refine wp_skip ?_
    refine hK20 _ _ ?_; clear hK20 K19
    refine wp_seq_k fun K24 hK25 => ?_
    refine wp_block ?_
    refine wp_seq_k fun K26 hK27 => ?_
    refine region ?_
    refine smake (k := 5) ha rfl rfl Tryd.underlying54 rfl rfl rfl rfl (show 8 * _ ≤ _ by omega) (by omega) rfl ?_
    clear ha a; intro a w28 b29 ha hg hb29 hge29 hlt29
    have hz29 : w0.heap.size ≤ b29 := Nat.le_trans hB.size hge29
    have hq6_29 : b6 < b29 := Nat.lt_of_lt_of_le (lt_of_block hb6) hge29
    have hq13_29 : b13 < b29 := Nat.lt_of_lt_of_le (lt_of_block hb13) hge29
    replace hB := keepB0 hg hB
    replace hb6 := keepO0 hg hb6
    replace hb13 := keepO0 hg hb13
    clear hg hge29 hlt29
    rw [show (List.replicate 5 (Value.int .u64 0)) = (List.replicate 5 (0 : UInt64)).map e64 by rw [List.map_replicate]; rfl] at hb29
    refine sv ha (r_assign ha rfl) rfl rfl rfl ?_; clear ha a; intro a ha
    refine hK27 _ _ ?_; clear hK27 K26
    refine wp_seq_k fun K30 hK31 => ?_
    refine wp_seq_k fun K32 hK33 => ?_
    refine region ?_
    refine sv ha (r_assign ha rfl) rfl rfl rfl ?_; clear ha a; intro a ha
    refine hK33 _ _ ?_; clear hK33 K32
    refine wp_block ?_
    refine loopG (fun (x : Nat) a w => (x ≤ 5) ∧ Has 183 [(0, v), (2, .slice none 0 0), (17, .slice (some ⟨b6, 0, none⟩) 25 25), (3, .slice (some ⟨b6, 0, none⟩) 25 25), (18, .slice (some ⟨b6, 0, none⟩) 25 25), (19, v), (21, .slice (some ⟨b13, 0, none⟩) 24 24), (4, .slice (some ⟨b13, 0, none⟩) 24 24), (5, en i), (22, en i), (23, .bool (decide (i < 24))), (26, .slice (some ⟨b29, 0, none⟩) 5 5), (6, .slice (some ⟨b29, 0, none⟩) 5 5), (7, en x)] a ∧ Below w0.heap.size w0 w ∧ w.heap[b6]? = some (.cells ((fastA l i).map e64).toArray 83 (0, 0)) ∧ w.heap[b13]? = some (.cells ((consts).map e64).toArray 83 (0, 0)) ∧ w.heap[b29]? = some (.cells ((thC (fastA l i) x).map e64).toArray 83 (0, 0))) (fun x => 5 - x) 0 ⟨(by omega), ha.to [0, 2, 17, 3, 18, 19, 21, 4, 5, 22, 23, 26, 6, 7] rfl, hB, hb6, hb13, hb29⟩ ?_
    clear ha a hB hb6 hb13 hb29
    intro x a w34 ⟨hkx, ha, hB, hb6, hb13, hb29⟩
    refine wp_seq_k fun K35 hK36 => ?_
    refine wp_seq_k fun K37 hK38 => ?_
    refine region ?_
    refine sv ha (r_move ha rfl) rfl rfl rfl ?_; clear ha a; intro a ha
    refine sv ha (r_lss ha ((x : Nat) : Int) 5 (decide (x < 5)) rfl rfl (decide_eq_decide.2 (by omega))) rfl rfl rfl ?_; clear ha a; intro a ha
    refine hK38 _ _ ?_; clear hK38 K37
    refine cond_if ha rfl (fun hc39 => ?_) (fun hc39 => ?_)
    · skip
      replace hc39 := of_decide_eq_true hc39
      refine wp_skip ?_
      refine hK36 _ _ ?_; clear hK36 K35
      refine wp_seq_k fun K40 hK41 => ?_
      refine wp_block ?_
      refine regionD (S := fun w => Below w0.heap.size w0 w ∧ w.heap[b6]? = some (.cells ((fastA l i).map e64).toArray 83 (0, 0)) ∧ w.heap[b13]? = some (.cells ((consts).map e64).toArray 83 (0, 0)) ∧ w.heap[b29]? = some (.cells ((thC (fastA l i) x).map e64).toArray 83 (0, 0)) ∧ True) [31] [0, 1, 2, 3, 4, 5, 6, 7, 8, 9, 10, 11, 12, 13, 14, 15, 16, 17, 18, 19, 20, 21, 22, 23, 24, 25, 26, 27, 28, 29, 30] [0, 1, 2, 3, 4, 5, 6, 7, 8, 9, 10, 11, 12, 13, 14, 15, 16, 17, 18, 19, 20, 21, 22, 23, 24, 25, 26, 27, 28, 29, 30, 31] mixed (by kernel_rfl) (fun w hg => ⟨keepB0 hg hB, keepO0 hg hb6, keepO0 hg hb13, keepO0 hg hb29, trivial⟩) ?_
      intro w42 hg
      replace hB := keepB0 hg hB
      replace hb6 := keepO0 hg hb6
      replace hb13 := keepO0 hg hb13
      replace hb29 := keepO0 hg hb29
      clear hg
      refine cv ha rfl rfl (fun w _ => r_move ha rfl) rfl rfl rfl ?_; clear ha a; intro a ha
      refine cv ha rfl rfl (fun w _ => r_move ha rfl) rfl rfl rfl ?_; clear ha a; intro a ha
      refine cv ha rfl rfl (fun w _ => r_move ha rfl) rfl rfl rfl ?_; clear ha a; intro a ha
      refine cv ha rfl rfl (fun w _ => r_move ha rfl) rfl rfl rfl ?_; clear ha a; intro a ha
      refine cv ha rfl rfl (fun w _ => r_indexB ha x Tryd.runUnderlying54 Tryd.sizeOf83 rfl rfl (by omega)) rfl rfl rfl ?_; clear ha a; intro a ha
      refine cv ha rfl rfl (fun w ⟨hB, hb6, hb13, hb29, _⟩ => r_load ha rfl Tryd.isAgg83 (cell_of hb6 (get_map e64 (fastA l i) 0 x (by rw [fastA_len, hl]; omega)))) rfl rfl rfl ?_; clear ha a; intro a ha
      refine cv ha rfl rfl (fun w _ => r_move ha rfl) rfl rfl rfl ?_; clear ha a; intro a ha
      refine cv ha rfl rfl (fun w _ => r_move ha rfl) rfl rfl rfl ?_; clear ha a; intro a ha
      refine cv ha rfl rfl (fun w _ => rn_add ha x 5 rfl rfl (by omega)) rfl rfl rfl ?_; clear ha a; intro a ha
      refine cv ha rfl rfl (fun w _ => r_indexB ha (x + 5) Tryd.runUnderlying54 Tryd.sizeOf83 rfl rfl (by omega)) rfl rfl rfl ?_; clear ha a; intro a ha
      refine cv ha rfl rfl (fun w ⟨hB, hb6, hb13, hb29, _⟩ => r_load ha rfl Tryd.isAgg83 (cell_of hb6 (get_map e64 (fastA l i) 0 (x + 5) (by rw [fastA_len, hl]; omega)))) rfl rfl rfl ?_; clear ha a; intro a ha
      refine cv ha rfl rfl (fun w _ => ru_xor ha ((fastA l i).getD x 0) ((fastA l i).getD (x + 5) 0) rfl rfl) rfl rfl rfl ?_; clear ha a; intro a ha
      refine cv ha rfl rfl (fun w _ => r_move ha rfl) rfl rfl rfl ?_; clear ha a; intro a ha
      refine cv ha rfl rfl (fun w _ => r_move ha rfl) rfl rfl rfl ?_; clear ha a; intro a ha
      refine cv ha rfl rfl (fun w _ => rn_add ha x 10 rfl rfl (by omega)) rfl rfl rfl ?_; clear ha a; intro a ha
      refine cv ha rfl rfl (fun w _ => r_indexB ha (x + 10) Tryd.runUnderlying54 Tryd.sizeOf83 rfl rfl (by omega)) rfl rfl rfl ?_; clear ha a; intro a ha
      refine cv ha rfl rfl (fun w ⟨hB, hb6, hb13, hb29, _⟩ => r_load ha rfl Tryd.isAgg83 (cell_of hb6 (get_map e64 (fastA l i) 0 (x + 10) (by rw [fastA_len, hl]; omega)))) rfl rfl rfl ?_; clear ha a; intro a ha
      refine cv ha rfl rfl (fun w _ => ru_xor ha (((fastA l i).getD x 0) ^^^ ((fastA l i).getD (x + 5) 0)) ((fastA l i).getD (x + 10) 0) rfl rfl) rfl rfl rfl ?_; clear ha a; intro a ha
      refine cv ha rfl rfl (fun w _ => r_move ha rfl) rfl rfl rfl ?_; clear ha a; intro a ha
      refine cv ha rfl rfl (fun w _ => r_move ha rfl) rfl rfl rfl ?_; clear ha a; intro a ha
      refine cv ha rfl rfl (fun w _ => rn_add ha x 15 rfl rfl (by omega)) rfl rfl rfl ?_; clear ha a; intro a ha
      refine cv ha rfl rfl (fun w _ => r_indexB ha (x + 15) Tryd.runUnderlying54 Tryd.sizeOf83 rfl rfl (by omega)) rfl rfl rfl ?_; clear ha a; intro a ha
      refine cv ha rfl rfl (fun w ⟨hB, hb6, hb13, hb29, _⟩ => r_load ha rfl Tryd.isAgg83 (cell_of hb6 (get_map e64 (fastA l i) 0 (x + 15) (by rw [fastA_len, hl]; omega)))) rfl rfl rfl ?_; clear ha a; intro a ha
      refine cv ha rfl rfl (fun w _ => ru_xor ha ((((fastA l i).getD x 0) ^^^ ((fastA l i).getD (x + 5) 0)) ^^^ ((fastA l i).getD (x + 10) 0)) ((fastA l i).getD (x + 15) 0) rfl rfl) rfl rfl rfl ?_; clear ha a; intro a ha
      refine cv ha rfl rfl (fun w _ => r_move ha rfl) rfl rfl rfl ?_; clear ha a; intro a ha
      refine cv ha rfl rfl (fun w _ => r_move ha rfl) rfl rfl rfl ?_; clear ha a; intro a ha
      refine cv ha rfl rfl (fun w _ => rn_add ha x 20 rfl rfl (by omega)) rfl rfl rfl ?_; clear ha a; intro a ha
      refine cv ha rfl rfl (fun w _ => r_indexB ha (x + 20) Tryd.runUnderlying54 Tryd.sizeOf83 rfl rfl (by omega)) rfl rfl rfl ?_; clear ha a; intro a ha
      refine cv ha rfl rfl (fun w ⟨hB, hb6, hb13, hb29, _⟩ => r_load ha rfl Tryd.isAgg83 (cell_of hb6 (get_map e64 (fastA l i) 0 (x + 20) (by rw [fastA_len, hl]; omega)))) rfl rfl rfl ?_; clear ha a; intro a ha
      refine cv ha rfl rfl (fun w _ => ru_xor ha (((((fastA l i).getD x 0) ^^^ ((fastA l i).getD (x + 5) 0)) ^^^ ((fastA l i).getD (x + 10) 0)) ^^^ ((fastA l i).getD (x + 15) 0)) ((fastA l i).getD (x + 20) 0) rfl rfl) rfl rfl rfl ?_; clear ha a; intro a ha
      refine cv ha rfl rfl (fun w _ => r_indexB ha x Tryd.runUnderlying54 Tryd.sizeOf83 rfl rfl (by omega)) rfl rfl rfl ?_; clear ha a; intro a ha
      refine cstore ha rfl rfl (v := e64 ((((((fastA l i).getD x 0) ^^^ ((fastA l i).getD (x + 5) 0)) ^^^ ((fastA l i).getD (x + 10) 0)) ^^^ ((fastA l i).getD (x + 15) 0)) ^^^ ((fastA l i).getD (x + 20) 0))) rfl rfl rfl rfl Tryd.sizeOf83 hb29 (by rw [List.length_map, thC_len]; omega) rfl ?_
      clear ha a; intro a w43 ha hg hb29'
      rw [set_map] at hb29'
      clear hb29; have hb29 := hb29'; clear hb29'
      replace hB := keepB1 hg (by omega) hB
      replace hb6 := keepO1 hg (by omega) hb6
      replace hb13 := keepO1 hg (by omega) hb13
      clear hg
      refine cfin (hK41 _ _ ?_); clear hK41 K40
      refine region ?_
      refine sv ha (r_move ha rfl) rfl rfl rfl ?_; clear ha a; intro a ha
      refine sv ha (rn_add ha x 1 rfl rfl (by omega)) rfl rfl rfl ?_; clear ha a; intro a ha
      refine sv ha (r_assign ha rfl) rfl rfl rfl ?_; clear ha a; intro a ha
      exact ⟨x + 1, by omega, (by omega), ha.to [0, 2, 17, 3, 18, 19, 21, 4, 5, 22, 23, 26, 6, 7] rfl, hB, hb6, hb13, hb29⟩
    · skip
      replace hc39 := of_decide_eq_false hc39
      refine wp_exit ?_
      obtain rfl : x = 5 := by omega
      refine hK31 _ _ ?_; clear hK36 K35 hK31 K30
      refine wp_seq_k fun K44 hK45 => ?_
      refine wp_seq_k fun K46 hK47 => ?_
      refine region ?_
      refine sv ha (r_assign ha rfl) rfl rfl rfl ?_; clear ha a; intro a ha
      refine hK47 _ _ ?_; clear hK47 K46
      refine wp_block ?_
      refine loopG (fun (k : Nat) a w => (k ≤ 25) ∧ Has 183 [(0, v), (2, .slice none 0 0), (17, .slice (some ⟨b6, 0, none⟩) 25 25), (3, .slice (some ⟨b6, 0, none⟩) 25 25), (18, .slice (some ⟨b6, 0, none⟩) 25 25), (19, v), (21, .slice (some ⟨b13, 0, none⟩) 24 24), (4, .slice (some ⟨b13, 0, none⟩) 24 24), (5, en i), (22, en i), (23, .bool (decide (i < 24))), (26, .slice (some ⟨b29, 0, none⟩) 5 5), (6, .slice (some ⟨b29, 0, none⟩) 5 5), (7, en 5), (27, en 5), (28, .bool (decide (5 < 5))), (8, en k)] a ∧ Below w0.heap.size w0 w ∧ w.heap[b6]? = some (.cells ((fsA (fastA l i) k).map e64).toArray 83 (0, 0)) ∧ w.heap[b13]? = some (.cells ((consts).map e64).toArray 83 (0, 0)) ∧ w.heap[b29]? = some (.cells ((thC (fastA l i) 5).map e64).toArray 83 (0, 0))) (fun k => 25 - k) 0 ⟨(by omega), ha.to [0, 2, 17, 3, 18, 19, 21, 4, 5, 22, 23, 26, 6, 7, 27, 28, 8] rfl, hB, hb6, hb13, hb29⟩ ?_
      clear ha a hB hb6 hb13 hb29
      intro k a w48 ⟨hkk, ha, hB, hb6, hb13, hb29⟩
      refine wp_seq_k fun K49 hK50 => ?_
      refine wp_seq_k fun K51 hK52 => ?_
      refine region ?_
      refine sv ha (r_move ha rfl) rfl rfl rfl ?_; clear ha a; intro a ha
      refine sv ha (r_lss ha ((k : Nat) : Int) 25 (decide (k < 25)) rfl rfl (decide_eq_decide.2 (by omega))) rfl rfl rfl ?_; clear ha a; intro a ha
      refine hK52 _ _ ?_; clear hK52 K51
      refine cond_if ha rfl (fun hc53 => ?_) (fun hc53 => ?_)
      · skip
        replace hc53 := of_decide_eq_true hc53
        refine wp_skip ?_
        refine hK50 _ _ ?_; clear hK50 K49
        refine wp_seq_k fun K54 hK55 => ?_
        refine wp_block ?_
        refine regionD (S := fun w => Below w0.heap.size w0 w ∧ w.heap[b6]? = some (.cells ((fsA (fastA l i) k).map e64).toArray 83 (0, 0)) ∧ w.heap[b13]? = some (.cells ((consts).map e64).toArray 83 (0, 0)) ∧ w.heap[b29]? = some (.cells ((thC (fastA l i) 5).map e64).toArray 83 (0, 0)) ∧ True) [24] [0, 1, 2, 3, 4, 5, 6, 7, 8, 9, 10, 11, 12, 13, 14, 15, 16, 17, 18, 19, 20, 22, 23] [0, 1, 2, 3, 4, 5, 6, 7, 8, 9, 10, 11, 12, 13, 14, 15, 16, 17, 18, 19, 20, 21, 22, 23, 24] mixed (by kernel_rfl) (fun w hg => ⟨keepB0 hg hB, keepO0 hg hb6, keepO0 hg hb13, keepO0 hg hb29, trivial⟩) ?_
        intro w56 hg
        replace hB := keepB0 hg hB
        replace hb6 := keepO0 hg hb6
        replace hb13 := keepO0 hg hb13
        replace hb29 := keepO0 hg hb29
        clear hg
        refine cv ha rfl rfl (fun w _ => r_move ha rfl) rfl rfl rfl ?_; clear ha a; intro a ha
        refine cv ha rfl rfl (fun w _ => r_move ha rfl) rfl rfl rfl ?_; clear ha a; intro a ha
        refine cv ha rfl rfl (fun w _ => r_move ha rfl) rfl rfl rfl ?_; clear ha a; intro a ha
        refine cv ha rfl rfl (fun w _ => r_move ha rfl) rfl rfl rfl ?_; clear ha a; intro a ha
        refine cv ha rfl rfl (fun w _ => r_indexB ha k Tryd.runUnderlying54 Tryd.sizeOf83 rfl rfl (by omega)) rfl rfl rfl ?_; clear ha a; intro a ha
        refine cv ha rfl rfl (fun w ⟨hB, hb6, hb13, hb29, _⟩ => r_load ha rfl Tryd.isAgg83 (cell_of hb6 (get_map e64 (fsA (fastA l i) k) 0 k (by rw [fsA_len, fastA_len, hl]; omega)))) rfl rfl rfl ?_; clear ha a; intro a ha
        refine cv ha rfl rfl (fun w _ => r_move ha rfl) rfl rfl rfl ?_; clear ha a; intro a ha
        refine cv ha rfl rfl (fun w _ => r_move ha rfl) rfl rfl rfl ?_; clear ha a; intro a ha
        refine cv ha rfl rfl (fun w _ => rn_rem ha k 5 rfl rfl (by omega)) rfl rfl rfl ?_; clear ha a; intro a ha
        refine cv ha rfl rfl (fun w _ => rn_add ha (k % 5) 4 rfl rfl (by omega)) rfl rfl rfl ?_; clear ha a; intro a ha
        refine cv ha rfl rfl (fun w _ => rn_rem ha ((k % 5) + 4) 5 rfl rfl (by omega)) rfl rfl rfl ?_; clear ha a; intro a ha
        refine cv ha rfl rfl (fun w _ => r_indexB ha (((k % 5) + 4) % 5) Tryd.runUnderlying54 Tryd.sizeOf83 rfl rfl (by omega)) rfl rfl rfl ?_; clear ha a; intro a ha
        refine cv ha rfl rfl (fun w ⟨hB, hb6, hb13, hb29, _⟩ => r_load ha rfl Tryd.isAgg83 (cell_of hb29 (get_map e64 (thC (fastA l i) 5) 0 (((k % 5) + 4) % 5) (by rw [thC_len]; omega)))) rfl rfl rfl ?_; clear ha a; intro a ha
        refine cv ha rfl rfl (fun w _ => ru_xor ha ((fsA (fastA l i) k).getD k 0) ((thC (fastA l i) 5).getD (((k % 5) + 4) % 5) 0) rfl rfl) rfl rfl rfl ?_; clear ha a; intro a ha
        refine cv ha rfl rfl (fun w _ => r_move ha rfl) rfl rfl rfl ?_; clear ha a; intro a ha
        refine cv ha rfl rfl (fun w _ => r_move ha rfl) rfl rfl rfl ?_; clear ha a; intro a ha
        refine cv ha rfl rfl (fun w _ => rn_rem ha k 5 rfl rfl (by omega)) rfl rfl rfl ?_; clear ha a; intro a ha
        refine cv ha rfl rfl (fun w _ => rn_add ha (k % 5) 1 rfl rfl (by omega)) rfl rfl rfl ?_; clear ha a; intro a ha
        refine cv ha rfl rfl (fun w _ => rn_rem ha ((k % 5) + 1) 5 rfl rfl (by omega)) rfl rfl rfl ?_; clear ha a; intro a ha
        refine cv ha rfl rfl (fun w _ => r_indexB ha (((k % 5) + 1) % 5) Tryd.runUnderlying54 Tryd.sizeOf83 rfl rfl (by omega)) rfl rfl rfl ?_; clear ha a; intro a ha
        refine cv ha rfl rfl (fun w ⟨hB, hb6, hb13, hb29, _⟩ => r_load ha rfl Tryd.isAgg83 (cell_of hb29 (get_map e64 (thC (fastA l i) 5) 0 (((k % 5) + 1) % 5) (by rw [thC_len]; omega)))) rfl rfl rfl ?_; clear ha a; intro a ha
        refine cc ha rfl rfl (r_call ha [e64 ((thC (fastA l i) 5).getD (((k % 5) + 1) % 5) 0), en 1] rfl Tryd.call71) rfl rfl rfl (c_rturn ((thC (fastA l i) 5).getD (((k % 5) + 1) % 5) 0) 1 _ (by omega)) ?_
        clear ha a
        rintro e w57 ⟨rfl, hBc⟩
        have hg := grown_call hBc; clear hBc
        replace hB := keepB0 hg hB
        replace hb6 := keepO0 hg hb6
        replace hb13 := keepO0 hg hb13
        replace hb29 := keepO0 hg hb29
        clear hg
        refine ⟨fun _ => ⟨hB, hb6, hb13, hb29, trivial⟩, _, rfl, ?_⟩; intro a ha
        refine cv ha rfl rfl (fun w _ => ru_xor ha (((fsA (fastA l i) k).getD k 0) ^^^ ((thC (fastA l i) 5).getD (((k % 5) + 4) % 5) 0)) (turnR ((thC (fastA l i) 5).getD (((k % 5) + 1) % 5) 0) 1) rfl rfl) rfl rfl rfl ?_; clear ha a; intro a ha
        refine cv ha rfl rfl (fun w _ => r_indexB ha k Tryd.runUnderlying54 Tryd.sizeOf83 rfl rfl (by omega)) rfl rfl rfl ?_; clear ha a; intro a ha
        refine cstore ha rfl rfl (v := e64 ((((fsA (fastA l i) k).getD k 0) ^^^ ((thC (fastA l i) 5).getD (((k % 5) + 4) % 5) 0)) ^^^ (turnR ((thC (fastA l i) 5).getD (((k % 5) + 1) % 5) 0) 1))) rfl rfl rfl rfl Tryd.sizeOf83 hb6 (by rw [List.length_map, fsA_len, fastA_len, hl]; omega) rfl ?_
        clear ha a; intro a w58 ha hg hb6'
        rw [set_map] at hb6'
        clear hb6; have hb6 := hb6'; clear hb6'
        replace hB := keepB1 hg (by omega) hB
        replace hb13 := keepO1 hg (by omega) hb13
        replace hb29 := keepO1 hg (by omega) hb29
        clear hg
        refine cfin (hK55 _ _ ?_); clear hK55 K54
        refine region ?_
        refine sv ha (r_move ha rfl) rfl rfl rfl ?_; clear ha a; intro a ha
        refine sv ha (rn_add ha k 1 rfl rfl (by omega)) rfl rfl rfl ?_; clear ha a; intro a ha
        refine sv ha (r_assign ha rfl) rfl rfl rfl ?_; clear ha a; intro a ha
        exact ⟨k + 1, by omega, (by omega), ha.to [0, 2, 17, 3, 18, 19, 21, 4, 5, 22, 23, 26, 6, 7, 27, 28, 8] rfl, hB, hb6, hb13, hb29⟩
      · skip
        replace hc53 := of_decide_eq_false hc53
        refine wp_exit ?_
        obtain rfl : k = 25 := by omega
        refine hK45 _ _ ?_; clear hK50 K49 hK45 K44
        refine wp_seq_k fun K59 hK60 => ?_
        refine region ?_
        refine sc ha (r_call ha [] rfl Tryd.call69) rfl rfl rfl (c_lanes  _ ) ?_
        clear ha a
        rintro e w61 ⟨b62, rfl, hBc, hb62, hge62⟩
        have hg := grown_call hBc; clear hBc
        have hz62 : w0.heap.size ≤ b62 := Nat.le_trans hB.size hge62
        have hq6_62 : b6 < b62 := Nat.lt_of_lt_of_le (lt_of_block hb6) hge62
        have hq13_62 : b13 < b62 := Nat.lt_of_lt_of_le (lt_of_block hb13) hge62
        have hq29_62 : b29 < b62 := Nat.lt_of_lt_of_le (lt_of_block hb29) hge62
        replace hB := keepB0 hg hB
        replace hb6 := keepO0 hg hb6
        replace hb13 := keepO0 hg hb13
        replace hb29 := keepO0 hg hb29
        clear hg hge62
        refine ⟨_, rfl, ?_⟩; intro a ha
        refine sv ha (r_assign ha rfl) rfl rfl rfl ?_; clear ha a; intro a ha
        refine hK60 _ _ ?_; clear hK60 K59
        refine wp_seq_k fun K63 hK64 => ?_
        refine region ?_
        refine sv ha (r_assign ha rfl) rfl rfl rfl ?_; clear ha a; intro a ha
        refine hK64 _ _ ?_; clear hK64 K63
        refine wp_seq_k fun K65 hK66 => ?_
        refine region ?_
        refine sv ha (r_assign ha rfl) rfl rfl rfl ?_; clear ha a; intro a ha
        refine hK66 _ _ ?_; clear hK66 K65
        refine wp_seq_k fun K67 hK68 => ?_
        refine region ?_
        refine sv ha (r_move ha rfl) rfl rfl rfl ?_; clear ha a; intro a ha
        refine sv ha (r_move ha rfl) rfl rfl rfl ?_; clear ha a; intro a ha
        refine sv ha (r_indexB ha 0 Tryd.runUnderlying54 Tryd.sizeOf83 rfl rfl (by omega)) rfl rfl rfl ?_; clear ha a; intro a ha
        refine sv ha (r_load ha rfl Tryd.isAgg83 (cell_of hb6 (get_map e64 (fsA (fastA l i) 25) 0 0 (by rw [fsA_len, fastA_len, hl]; omega)))) rfl rfl rfl ?_; clear ha a; intro a ha
        refine sv ha (r_indexB ha 0 Tryd.runUnderlying54 Tryd.sizeOf83 rfl rfl (by omega)) rfl rfl rfl ?_; clear ha a; intro a ha
        refine sstore ha (v := e64 ((fsA (fastA l i) 25).getD 0 0)) rfl rfl rfl rfl Tryd.sizeOf83 hb62 (by rw [List.length_map, List.length_replicate]; omega) ?_
        clear ha a; intro a w69 ha hg hb62'
        rw [set_map] at hb62'
        clear hb62; have hb62 := hb62'; clear hb62'
        replace hB := keepB1 hg (by omega) hB
        replace hb6 := keepO1 hg (by omega) hb6
        replace hb13 := keepO1 hg (by omega) hb13
        replace hb29 := keepO1 hg (by omega) hb29
        clear hg
        refine hK68 _ _ ?_; clear hK68 K67
        refine wp_seq_k fun K70 hK71 => ?_
        refine wp_seq_k fun K72 hK73 => ?_
        refine region ?_
        refine sv ha (r_assign ha rfl) rfl rfl rfl ?_; clear ha a; intro a ha
        refine hK73 _ _ ?_; clear hK73 K72
        refine wp_block ?_
        refine loopG (fun (t : Nat) a w => (t ≤ 24) ∧ Has 183 [(0, v), (2, .slice none 0 0), (17, .slice (some ⟨b6, 0, none⟩) 25 25), (3, .slice (some ⟨b6, 0, none⟩) 25 25), (18, .slice (some ⟨b6, 0, none⟩) 25 25), (19, v), (21, .slice (some ⟨b13, 0, none⟩) 24 24), (4, .slice (some ⟨b13, 0, none⟩) 24 24), (5, en i), (22, en i), (23, .bool (decide (i < 24))), (26, .slice (some ⟨b29, 0, none⟩) 5 5), (6, .slice (some ⟨b29, 0, none⟩) 5 5), (7, en 5), (27, en 5), (28, .bool (decide (5 < 5))), (8, en 25), (62, en 25), (63, .bool (decide (25 < 25))), (90, .slice (some ⟨b62, 0, none⟩) 25 25), (9, .slice (some ⟨b62, 0, none⟩) 25 25), (91, .slice (some ⟨b62, 0, none⟩) 25 25), (92, .slice (some ⟨b6, 0, none⟩) 25 25), (93, .pointer (some ⟨b6, 0, none⟩)), (94, e64 ((fsA (fastA l i) 25).getD 0 0)), (95, .pointer (some ⟨b62, 0, none⟩)), (12, en t), (10, en ((rhXY t).1)), (11, en ((rhXY t).2))] a ∧ Below w0.heap.size w0 w ∧ w.heap[b6]? = some (.cells ((fsA (fastA l i) 25).map e64).toArray 83 (0, 0)) ∧ w.heap[b13]? = some (.cells ((consts).map e64).toArray 83 (0, 0)) ∧ w.heap[b29]? = some (.cells ((thC (fastA l i) 5).map e64).toArray 83 (0, 0)) ∧ w.heap[b62]? = some (.cells ((fsP (fsA (fastA l i) 25) t).map e64).toArray 83 (0, 0))) (fun t => 24 - t) 0 ⟨(by omega), ha.to [0, 2, 17, 3, 18, 19, 21, 4, 5, 22, 23, 26, 6, 7, 27, 28, 8, 62, 63, 90, 9, 91, 92, 93, 94, 95, 12, 10, 11] rfl, hB, hb6, hb13, hb29, hb62⟩ ?_
        clear ha a hB hb6 hb13 hb29 hb62
        intro t a w74 ⟨hkt, ha, hB, hb6, hb13, hb29, hb62⟩
        have hxy := rhXY_lt t
        have hmul : (t + 1) * (t + 2) ≤ 25 * 26 := Nat.mul_le_mul (by omega) (by omega)
        refine wp_seq_k fun K75 hK76 => ?_
        refine wp_seq_k fun K77 hK78 => ?_
        refine region ?_
        refine sv ha (r_move ha rfl) rfl rfl rfl ?_; clear ha a; intro a ha
        refine sv ha (r_lss ha ((t : Nat) : Int) 24 (decide (t < 24)) rfl rfl (decide_eq_decide.2 (by omega))) rfl rfl rfl ?_; clear ha a; intro a ha
        refine hK78 _ _ ?_; clear hK78 K77
        refine cond_if ha rfl (fun hc79 => ?_) (fun hc79 => ?_)
        · skip
          replace hc79 := of_decide_eq_true hc79
          refine wp_skip ?_
          refine hK76 _ _ ?_; clear hK76 K75
          refine wp_seq_k fun K80 hK81 => ?_
          refine wp_block ?_
          refine wp_seq_k fun K82 hK83 => ?_
          refine region ?_
          refine sv ha (r_move ha rfl) rfl rfl rfl ?_; clear ha a; intro a ha
          refine sv ha (r_move ha rfl) rfl rfl rfl ?_; clear ha a; intro a ha
          refine sv ha (r_move ha rfl) rfl rfl rfl ?_; clear ha a; intro a ha
          refine sv ha (rn_mul ha 2 ((rhXY t).1) rfl rfl (by omega)) rfl rfl rfl ?_; clear ha a; intro a ha
          refine sv ha (r_move ha rfl) rfl rfl rfl ?_; clear ha a; intro a ha
          refine sv ha (rn_mul ha 3 ((rhXY t).2) rfl rfl (by omega)) rfl rfl rfl ?_; clear ha a; intro a ha
          refine sv ha (rn_add ha (2 * ((rhXY t).1)) (3 * ((rhXY t).2)) rfl rfl (by omega)) rfl rfl rfl ?_; clear ha a; intro a ha
          refine sv ha (rn_rem ha ((2 * ((rhXY t).1)) + (3 * ((rhXY t).2))) 5 rfl rfl (by omega)) rfl rfl rfl ?_; clear ha a; intro a ha
          refine sv ha (rn_mul ha 5 (((2 * ((rhXY t).1)) + (3 * ((rhXY t).2))) % 5) rfl rfl (by omega)) rfl rfl rfl ?_; clear ha a; intro a ha
          refine sv ha (rn_add ha ((rhXY t).2) (5 * (((2 * ((rhXY t).1)) + (3 * ((rhXY t).2))) % 5)) rfl rfl (by omega)) rfl rfl rfl ?_; clear ha a; intro a ha
          refine sv ha (r_move ha rfl) rfl rfl rfl ?_; clear ha a; intro a ha
          refine sv ha (r_move ha rfl) rfl rfl rfl ?_; clear ha a; intro a ha
          refine sv ha (r_move ha rfl) rfl rfl rfl ?_; clear ha a; intro a ha
          refine sv ha (rn_mul ha 5 ((rhXY t).2) rfl rfl (by omega)) rfl rfl rfl ?_; clear ha a; intro a ha
          refine sv ha (rn_add ha ((rhXY t).1) (5 * ((rhXY t).2)) rfl rfl (by omega)) rfl rfl rfl ?_; clear ha a; intro a ha
          refine sv ha (r_indexB ha (((rhXY t).1) + (5 * ((rhXY t).2))) Tryd.runUnderlying54 Tryd.sizeOf83 rfl rfl (by omega)) rfl rfl rfl ?_; clear ha a; intro a ha
          refine sv ha (r_load ha rfl Tryd.isAgg83 (cell_of hb6 (get_map e64 (fsA (fastA l i) 25) 0 (((rhXY t).1) + (5 * ((rhXY t).2))) (by rw [fsA_len, fastA_len, hl]; omega)))) rfl rfl rfl ?_; clear ha a; intro a ha
          refine sv ha (r_move ha rfl) rfl rfl rfl ?_; clear ha a; intro a ha
          refine sv ha (rn_add ha t 1 rfl rfl (by omega)) rfl rfl rfl ?_; clear ha a; intro a ha
          refine sv ha (r_move ha rfl) rfl rfl rfl ?_; clear ha a; intro a ha
          refine sv ha (rn_add ha t 2 rfl rfl (by omega)) rfl rfl rfl ?_; clear ha a; intro a ha
          refine sv ha (rn_mul ha (t + 1) (t + 2) rfl rfl (by omega)) rfl rfl rfl ?_; clear ha a; intro a ha
          refine sv ha (rn_quo ha ((t + 1) * (t + 2)) 2 rfl rfl (by omega) (by omega)) rfl rfl rfl ?_; clear ha a; intro a ha
          refine sv ha (rn_rem ha (((t + 1) * (t + 2)) / 2) 64 rfl rfl (by omega)) rfl rfl rfl ?_; clear ha a; intro a ha
          refine sc ha (r_call ha [e64 ((fsA (fastA l i) 25).getD (((rhXY t).1) + (5 * ((rhXY t).2))) 0), en ((((t + 1) * (t + 2)) / 2) % 64)] rfl Tryd.call71) rfl rfl rfl (c_rturn ((fsA (fastA l i) 25).getD (((rhXY t).1) + (5 * ((rhXY t).2))) 0) ((((t + 1) * (t + 2)) / 2) % 64) _ (by omega)) ?_
          clear ha a
          rintro e w84 ⟨rfl, hBc⟩
          have hg := grown_call hBc; clear hBc
          replace hB := keepB0 hg hB
          replace hb6 := keepO0 hg hb6
          replace hb13 := keepO0 hg hb13
          replace hb29 := keepO0 hg hb29
          replace hb62 := keepO0 hg hb62
          clear hg
          refine ⟨_, rfl, ?_⟩; intro a ha
          refine sv ha (r_indexB ha (((rhXY t).2) + (5 * (((2 * ((rhXY t).1)) + (3 * ((rhXY t).2))) % 5))) Tryd.runUnderlying54 Tryd.sizeOf83 rfl rfl (by omega)) rfl rfl rfl ?_; clear ha a; intro a ha
          refine sstore ha (v := e64 (turnR ((fsA (fastA l i) 25).getD (((rhXY t).1) + (5 * ((rhXY t).2))) 0) ((((t + 1) * (t + 2)) / 2) % 64))) rfl rfl rfl rfl Tryd.sizeOf83 hb62 (by rw [List.length_map, fsP_len]; omega) ?_
          clear ha a; intro a w85 ha hg hb62'
          rw [set_map] at hb62'
          clear hb62; have hb62 := hb62'; clear hb62'
          replace hB := keepB1 hg (by omega) hB
          replace hb6 := keepO1 hg (by omega) hb6
          replace hb13 := keepO1 hg (by omega) hb13
          replace hb29 := keepO1 hg (by omega) hb29
          clear hg
          refine hK83 _ _ ?_; clear hK83 K82
          refine wp_seq_k fun K86 hK87 => ?_
          refine region ?_
          refine sv ha (r_move ha rfl) rfl rfl rfl ?_; clear ha a; intro a ha
          refine sv ha (r_assign ha rfl) rfl rfl rfl ?_; clear ha a; intro a ha
          refine hK87 _ _ ?_; clear hK87 K86
          refine wp_seq_k fun K88 hK89 => ?_
          refine region ?_
          refine sv ha (r_move ha rfl) rfl rfl rfl ?_; clear ha a; intro a ha
          refine sv ha (rn_mul ha 2 ((rhXY t).1) rfl rfl (by omega)) rfl rfl rfl ?_; clear ha a; intro a ha
          refine sv ha (r_move ha rfl) rfl rfl rfl ?_; clear ha a; intro a ha
          refine sv ha (rn_mul ha 3 ((rhXY t).2) rfl rfl (by omega)) rfl rfl rfl ?_; clear ha a; intro a ha
          refine sv ha (rn_add ha (2 * ((rhXY t).1)) (3 * ((rhXY t).2)) rfl rfl (by omega)) rfl rfl rfl ?_; clear ha a; intro a ha
          refine sv ha (rn_rem ha ((2 * ((rhXY t).1)) + (3 * ((rhXY t).2))) 5 rfl rfl (by omega)) rfl rfl rfl ?_; clear ha a; intro a ha
          refine sv ha (r_assign ha rfl) rfl rfl rfl ?_; clear ha a; intro a ha
          refine hK89 _ _ ?_; clear hK89 K88
          refine region ?_
          refine sv ha (r_move ha rfl) rfl rfl rfl ?_; clear ha a; intro a ha
          refine sv ha (r_assign ha rfl) rfl rfl rfl ?_; clear ha a; intro a ha
          refine hK81 _ _ ?_; clear hK81 K80
          refine region ?_
          refine sv ha (r_move ha rfl) rfl rfl rfl ?_; clear ha a; intro a ha
          refine sv ha (rn_add ha t 1 rfl rfl (by omega)) rfl rfl rfl ?_; clear ha a; intro a ha
          refine sv ha (r_assign ha rfl) rfl rfl rfl ?_; clear ha a; intro a ha
          exact ⟨t + 1, by omega, (by omega), ha.to [0, 2, 17, 3, 18, 19, 21, 4, 5, 22, 23, 26, 6, 7, 27, 28, 8, 62, 63, 90, 9, 91, 92, 93, 94, 95, 12, 10, 11] rfl, hB, hb6, hb13, hb29, hb62⟩
        · skip
          replace hc79 := of_decide_eq_false hc79
          refine wp_exit ?_
          obtain rfl : t = 24 := by omega
          refine hK71 _ _ ?_; clear hK76 K75 hK71 K70
          refine wp_seq_k fun K90 hK91 => ?_
          refine wp_seq_k fun K92 hK93 => ?_
          refine region ?_
          refine sv ha (r_assign ha rfl) rfl rfl rfl ?_; clear ha a; intro a ha
          refine hK93 _ _ ?_; clear hK93 K92
          refine wp_block ?_
          refine loopG (fun (k : Nat) a w => (k ≤ 25) ∧ Has 183 [(0, v), (2, .slice none 0 0), (17, .slice (some ⟨b6, 0, none⟩) 25 25), (3, .slice (some ⟨b6, 0, none⟩) 25 25), (18, .slice (some ⟨b6, 0, none⟩) 25 25), (19, v), (21, .slice (some ⟨b13, 0, none⟩) 24 24), (4, .slice (some ⟨b13, 0, none⟩) 24 24), (5, en i), (22, en i), (23, .bool (decide (i < 24))), (26, .slice (some ⟨b29, 0, none⟩) 5 5), (6, .slice (some ⟨b29, 0, none⟩) 5 5), (7, en 5), (27, en 5), (28, .bool (decide (5 < 5))), (8, en 25), (62, en 25), (63, .bool (decide (25 < 25))), (90, .slice (some ⟨b62, 0, none⟩) 25 25), (9, .slice (some ⟨b62, 0, none⟩) 25 25), (91, .slice (some ⟨b62, 0, none⟩) 25 25), (92, .slice (some ⟨b6, 0, none⟩) 25 25), (93, .pointer (some ⟨b6, 0, none⟩)), (94, e64 ((fsA (fastA l i) 25).getD 0 0)), (95, .pointer (some ⟨b62, 0, none⟩)), (12, en 24), (10, en ((rhXY 24).1)), (11, en ((rhXY 24).2)), (96, en 24), (97, .bool (decide (24 < 24))), (14, en k)] a ∧ Below w0.heap.size w0 w ∧ w.heap[b6]? = some (.cells ((fsX (fsP (fsA (fastA l i) 25) 24) (fsA (fastA l i) 25) k).map e64).toArray 83 (0, 0)) ∧ w.heap[b13]? = some (.cells ((consts).map e64).toArray 83 (0, 0)) ∧ w.heap[b29]? = some (.cells ((thC (fastA l i) 5).map e64).toArray 83 (0, 0)) ∧ w.heap[b62]? = some (.cells ((fsP (fsA (fastA l i) 25) 24).map e64).toArray 83 (0, 0))) (fun k => 25 - k) 0 ⟨(by omega), ha.to [0, 2, 17, 3, 18, 19, 21, 4, 5, 22, 23, 26, 6, 7, 27, 28, 8, 62, 63, 90, 9, 91, 92, 93, 94, 95, 12, 10, 11, 96, 97, 14] rfl, hB, hb6, hb13, hb29, hb62⟩ ?_
          clear ha a hB hb6 hb13 hb29 hb62
          intro k a w94 ⟨hkk, ha, hB, hb6, hb13, hb29, hb62⟩
          refine wp_seq_k fun K95 hK96 => ?_
          refine wp_seq_k fun K97 hK98 => ?_
          refine region ?_
          refine sv ha (r_move ha rfl) rfl rfl rfl ?_; clear ha a; intro a ha
          refine sv ha (r_lss ha ((k : Nat) : Int) 25 (decide (k < 25)) rfl rfl (decide_eq_decide.2 (by omega))) rfl rfl rfl ?_; clear ha a; intro a ha
          refine hK98 _ _ ?_; clear hK98 K97
          refine cond_if ha rfl (fun hc99 => ?_) (fun hc99 => ?_)
          · skip
            replace hc99 := of_decide_eq_true hc99
            refine wp_skip ?_
            refine hK96 _ _ ?_; clear hK96 K95
            refine wp_seq_k fun K100 hK101 => ?_
            refine wp_block ?_
            refine wp_seq_k fun K102 hK103 => ?_
            refine region ?_
            refine sv ha (r_move ha rfl) rfl rfl rfl ?_; clear ha a; intro a ha
            refine sv ha (r_move ha rfl) rfl rfl rfl ?_; clear ha a; intro a ha
            refine sv ha (rn_rem ha k 5 rfl rfl (by omega)) rfl rfl rfl ?_; clear ha a; intro a ha
            refine sv ha (rn_sub ha k (k % 5) rfl rfl (by omega) (by omega)) rfl rfl rfl ?_; clear ha a; intro a ha
            refine sv ha (r_assign ha rfl) rfl rfl rfl ?_; clear ha a; intro a ha
            refine hK103 _ _ ?_; clear hK103 K102
            refine wp_seq_k fun K104 hK105 => ?_
            refine region ?_
            refine sv ha (r_move ha rfl) rfl rfl rfl ?_; clear ha a; intro a ha
            refine sv ha (r_move ha rfl) rfl rfl rfl ?_; clear ha a; intro a ha
            refine sv ha (r_move ha rfl) rfl rfl rfl ?_; clear ha a; intro a ha
            refine sv ha (rn_rem ha k 5 rfl rfl (by omega)) rfl rfl rfl ?_; clear ha a; intro a ha
            refine sv ha (rn_add ha (k % 5) 2 rfl rfl (by omega)) rfl rfl rfl ?_; clear ha a; intro a ha
            refine sv ha (rn_rem ha ((k % 5) + 2) 5 rfl rfl (by omega)) rfl rfl rfl ?_; clear ha a; intro a ha
            refine sv ha (rn_add ha (k - (k % 5)) (((k % 5) + 2) % 5) rfl rfl (by omega)) rfl rfl rfl ?_; clear ha a; intro a ha
            refine sv ha (r_indexB ha ((k - (k % 5)) + (((k % 5) + 2) % 5)) Tryd.runUnderlying54 Tryd.sizeOf83 rfl rfl (by omega)) rfl rfl rfl ?_; clear ha a; intro a ha
            refine sv ha (r_load ha rfl Tryd.isAgg83 (cell_of hb62 (get_map e64 (fsP (fsA (fastA l i) 25) 24) 0 ((k - (k % 5)) + (((k % 5) + 2) % 5)) (by rw [fsP_len]; omega)))) rfl rfl rfl ?_; clear ha a; intro a ha
            refine sv ha (r_assign ha rfl) rfl rfl rfl ?_; clear ha a; intro a ha
            refine hK105 _ _ ?_; clear hK105 K104
            refine regionD (S := fun w => Below w0.heap.size w0 w ∧ w.heap[b6]? = some (.cells ((fsX (fsP (fsA (fastA l i) 25) 24) (fsA (fastA l i) 25) k).map e64).toArray 83 (0, 0)) ∧ w.heap[b13]? = some (.cells ((consts).map e64).toArray 83 (0, 0)) ∧ w.heap[b29]? = some (.cells ((thC (fastA l i) 5).map e64).toArray 83 (0, 0)) ∧ w.heap[b62]? = some (.cells ((fsP (fsA (fastA l i) 25) 24).map e64).toArray 83 (0, 0)) ∧ True) [21] [0, 1, 2, 3, 4, 5, 6, 7, 8, 9, 10, 11, 12, 13, 14, 15, 16, 17, 18, 19, 20] [0, 1, 2, 3, 4, 5, 6, 7, 8, 9, 10, 11, 12, 13, 14, 15, 16, 17, 18, 19, 20, 21] mixed (by kernel_rfl) (fun w hg => ⟨keepB0 hg hB, keepO0 hg hb6, keepO0 hg hb13, keepO0 hg hb29, keepO0 hg hb62, trivial⟩) ?_
            intro w106 hg
            replace hB := keepB0 hg hB
            replace hb6 := keepO0 hg hb6
            replace hb13 := keepO0 hg hb13
            replace hb29 := keepO0 hg hb29
            replace hb62 := keepO0 hg hb62
            clear hg
            refine cv ha rfl rfl (fun w _ => r_move ha rfl) rfl rfl rfl ?_; clear ha a; intro a ha
            refine cv ha rfl rfl (fun w _ => r_move ha rfl) rfl rfl rfl ?_; clear ha a; intro a ha
            refine cv ha rfl rfl (fun w _ => r_move ha rfl) rfl rfl rfl ?_; clear ha a; intro a ha
            refine cv ha rfl rfl (fun w _ => r_move ha rfl) rfl rfl rfl ?_; clear ha a; intro a ha
            refine cv ha rfl rfl (fun w _ => r_indexB ha k Tryd.runUnderlying54 Tryd.sizeOf83 rfl rfl (by omega)) rfl rfl rfl ?_; clear ha a; intro a ha
            refine cv ha rfl rfl (fun w ⟨hB, hb6, hb13, hb29, hb62, _⟩ => r_load ha rfl Tryd.isAgg83 (cell_of hb62 (get_map e64 (fsP (fsA (fastA l i) 25) 24) 0 k (by rw [fsP_len]; omega)))) rfl rfl rfl ?_; clear ha a; intro a ha
            refine cv ha rfl rfl (fun w _ => r_move ha rfl) rfl rfl rfl ?_; clear ha a; intro a ha
            refine cv ha rfl rfl (fun w _ => r_move ha rfl) rfl rfl rfl ?_; clear ha a; intro a ha
            refine cv ha rfl rfl (fun w _ => r_move ha rfl) rfl rfl rfl ?_; clear ha a; intro a ha
            refine cv ha rfl rfl (fun w _ => r_move ha rfl) rfl rfl rfl ?_; clear ha a; intro a ha
            refine cv ha rfl rfl (fun w _ => r_move ha rfl) rfl rfl rfl ?_; clear ha a; intro a ha
            refine cv ha rfl rfl (fun w _ => rn_rem ha k 5 rfl rfl (by omega)) rfl rfl rfl ?_; clear ha a; intro a ha
            refine cv ha rfl rfl (fun w _ => rn_add ha (k % 5) 1 rfl rfl (by omega)) rfl rfl rfl ?_; clear ha a; intro a ha
            refine cv ha rfl rfl (fun w _ => rn_rem ha ((k % 5) + 1) 5 rfl rfl (by omega)) rfl rfl rfl ?_; clear ha a; intro a ha
            refine cv ha rfl rfl (fun w _ => rn_add ha (k - (k % 5)) (((k % 5) + 1) % 5) rfl rfl (by omega)) rfl rfl rfl ?_; clear ha a; intro a ha
            refine cv ha rfl rfl (fun w _ => r_indexB ha ((k - (k % 5)) + (((k % 5) + 1) % 5)) Tryd.runUnderlying54 Tryd.sizeOf83 rfl rfl (by omega)) rfl rfl rfl ?_; clear ha a; intro a ha
            refine cv ha rfl rfl (fun w ⟨hB, hb6, hb13, hb29, hb62, _⟩ => r_load ha rfl Tryd.isAgg83 (cell_of hb62 (get_map e64 (fsP (fsA (fastA l i) 25) 24) 0 ((k - (k % 5)) + (((k % 5) + 1) % 5)) (by rw [fsP_len]; omega)))) rfl rfl rfl ?_; clear ha a; intro a ha
            refine cv ha rfl rfl (fun w _ => ru_and ha ((fsP (fsA (fastA l i) 25) 24).getD ((k - (k % 5)) + (((k % 5) + 2) % 5)) 0) ((fsP (fsA (fastA l i) 25) 24).getD ((k - (k % 5)) + (((k % 5) + 1) % 5)) 0) rfl rfl) rfl rfl rfl ?_; clear ha a; intro a ha
            refine cv ha rfl rfl (fun w _ => ru_sub ha ((fsP (fsA (fastA l i) 25) 24).getD ((k - (k % 5)) + (((k % 5) + 2) % 5)) 0) (((fsP (fsA (fastA l i) 25) 24).getD ((k - (k % 5)) + (((k % 5) + 2) % 5)) 0) &&& ((fsP (fsA (fastA l i) 25) 24).getD ((k - (k % 5)) + (((k % 5) + 1) % 5)) 0)) rfl rfl) rfl rfl rfl ?_; clear ha a; intro a ha
            refine cv ha rfl rfl (fun w _ => ru_xor ha ((fsP (fsA (fastA l i) 25) 24).getD k 0) (((fsP (fsA (fastA l i) 25) 24).getD ((k - (k % 5)) + (((k % 5) + 2) % 5)) 0) - (((fsP (fsA (fastA l i) 25) 24).getD ((k - (k % 5)) + (((k % 5) + 2) % 5)) 0) &&& ((fsP (fsA (fastA l i) 25) 24).getD ((k - (k % 5)) + (((k % 5) + 1) % 5)) 0))) rfl rfl) rfl rfl rfl ?_; clear ha a; intro a ha
            refine cv ha rfl rfl (fun w _ => r_indexB ha k Tryd.runUnderlying54 Tryd.sizeOf83 rfl rfl (by omega)) rfl rfl rfl ?_; clear ha a; intro a ha
            refine cstore ha rfl rfl (v := e64 (((fsP (fsA (fastA l i) 25) 24).getD k 0) ^^^ (((fsP (fsA (fastA l i) 25) 24).getD ((k - (k % 5)) + (((k % 5) + 2) % 5)) 0) - (((fsP (fsA (fastA l i) 25) 24).getD ((k - (k % 5)) + (((k % 5) + 2) % 5)) 0) &&& ((fsP (fsA (fastA l i) 25) 24).getD ((k - (k % 5)) + (((k % 5) + 1) % 5)) 0))))) rfl rfl rfl rfl Tryd.sizeOf83 hb6 (by rw [List.length_map, fsX_len, fsA_len, fastA_len, hl]; omega) rfl ?_
            clear ha a; intro a w107 ha hg hb6'
            rw [set_map] at hb6'
            clear hb6; have hb6 := hb6'; clear hb6'
            replace hB := keepB1 hg (by omega) hB
            replace hb13 := keepO1 hg (by omega) hb13
            replace hb29 := keepO1 hg (by omega) hb29
            replace hb62 := keepO1 hg (by omega) hb62
            clear hg
            refine cfin (hK101 _ _ ?_); clear hK101 K100
            refine region ?_
            refine sv ha (r_move ha rfl) rfl rfl rfl ?_; clear ha a; intro a ha
            refine sv ha (rn_add ha k 1 rfl rfl (by omega)) rfl rfl rfl ?_; clear ha a; intro a ha
            refine sv ha (r_assign ha rfl) rfl rfl rfl ?_; clear ha a; intro a ha
            exact ⟨k + 1, by omega, (by omega), ha.to [0, 2, 17, 3, 18, 19, 21, 4, 5, 22, 23, 26, 6, 7, 27, 28, 8, 62, 63, 90, 9, 91, 92, 93, 94, 95, 12, 10, 11, 96, 97, 14] rfl, hB, hb6, hb13, hb29, hb62⟩
          · skip
            replace hc99 := of_decide_eq_false hc99
            refine wp_exit ?_
            obtain rfl : k = 25 := by omega
            refine hK91 _ _ ?_; clear hK96 K95 hK91 K90
            refine regionD (S := fun w => Below w0.heap.size w0 w ∧ w.heap[b6]? = some (.cells ((fsX (fsP (fsA (fastA l i) 25) 24) (fsA (fastA l i) 25) 25).map e64).toArray 83 (0, 0)) ∧ w.heap[b13]? = some (.cells ((consts).map e64).toArray 83 (0, 0)) ∧ w.heap[b29]? = some (.cells ((thC (fastA l i) 5).map e64).toArray 83 (0, 0)) ∧ w.heap[b62]? = some (.cells ((fsP (fsA (fastA l i) 25) 24).map e64).toArray 83 (0, 0)) ∧ True) [10] [0, 1, 2, 3, 4, 5, 6, 7, 8, 9] [0, 1, 2, 3, 4, 5, 6, 7, 8, 9, 10] mixed (by kernel_rfl) (fun w hg => ⟨keepB0 hg hB, keepO0 hg hb6, keepO0 hg hb13, keepO0 hg hb29, keepO0 hg hb62, trivial⟩) ?_
            intro w108 hg
            replace hB := keepB0 hg hB
            replace hb6 := keepO0 hg hb6
            replace hb13 := keepO0 hg hb13
            replace hb29 := keepO0 hg hb29
            replace hb62 := keepO0 hg hb62
            clear hg
            refine cv ha rfl rfl (fun w _ => r_move ha rfl) rfl rfl rfl ?_; clear ha a; intro a ha
            refine cv ha rfl rfl (fun w _ => r_move ha rfl) rfl rfl rfl ?_; clear ha a; intro a ha
            refine cv ha rfl rfl (fun w _ => r_indexB ha 0 Tryd.runUnderlying54 Tryd.sizeOf83 rfl rfl (by omega)) rfl rfl rfl ?_; clear ha a; intro a ha
            refine cv ha rfl rfl (fun w ⟨hB, hb6, hb13, hb29, hb62, _⟩ => r_load ha rfl Tryd.isAgg83 (cell_of hb6 (get_map e64 (fsX (fsP (fsA (fastA l i) 25) 24) (fsA (fastA l i) 25) 25) 0 0 (by rw [fsX_len, fsA_len, fastA_len, hl]; omega)))) rfl rfl rfl ?_; clear ha a; intro a ha
            refine cv ha rfl rfl (fun w _ => r_move ha rfl) rfl rfl rfl ?_; clear ha a; intro a ha
            refine cv ha rfl rfl (fun w _ => r_move ha rfl) rfl rfl rfl ?_; clear ha a; intro a ha
            refine cv ha rfl rfl (fun w _ => r_indexB ha i Tryd.runUnderlying54 Tryd.sizeOf83 rfl rfl (by omega)) rfl rfl rfl ?_; clear ha a; intro a ha
            refine cv ha rfl rfl (fun w ⟨hB, hb6, hb13, hb29, hb62, _⟩ => r_load ha rfl Tryd.isAgg83 (cell_of hb13 (get_map e64 consts 0 i (by rw [show consts.length = 24 from rfl]; omega)))) rfl rfl rfl ?_; clear ha a; intro a ha
            refine cv ha rfl rfl (fun w _ => ru_xor ha ((fsX (fsP (fsA (fastA l i) 25) 24) (fsA (fastA l i) 25) 25).getD 0 0) (consts.getD i 0) rfl rfl) rfl rfl rfl ?_; clear ha a; intro a ha
            refine cv ha rfl rfl (fun w _ => r_indexB ha 0 Tryd.runUnderlying54 Tryd.sizeOf83 rfl rfl (by omega)) rfl rfl rfl ?_; clear ha a; intro a ha
            refine cstore ha rfl rfl (v := e64 (((fsX (fsP (fsA (fastA l i) 25) 24) (fsA (fastA l i) 25) 25).getD 0 0) ^^^ (consts.getD i 0))) rfl rfl rfl rfl Tryd.sizeOf83 hb6 (by rw [List.length_map, fsX_len, fsA_len, fastA_len, hl]; omega) rfl ?_
            clear ha a; intro a w109 ha hg hb6'
            rw [set_map] at hb6'
            clear hb6; have hb6 := hb6'; clear hb6'
            replace hB := keepB1 hg (by omega) hB
            replace hb13 := keepO1 hg (by omega) hb13
            replace hb29 := keepO1 hg (by omega) hb29
            replace hb62 := keepO1 hg (by omega) hb62
            clear hg
            refine cfin (hK25 _ _ ?_); clear hK25 K24
            refine region ?_
            refine sv ha (r_move ha rfl) rfl rfl rfl ?_; clear ha a; intro a ha
            refine sv ha (rn_add ha i 1 rfl rfl (by omega)) rfl rfl rfl ?_; clear ha a; intro a ha
            refine sv ha (r_assign ha rfl) rfl rfl rfl ?_; clear ha a; intro a ha
            exact ⟨i + 1, by omega, (by omega), ha.to [0, 2, 17, 3, 18, 19, 21, 4, 5] rfl, hB, hb6, hb13⟩
  · skip
    replace hc23 := of_decide_eq_false hc23
    refine wp_exit ?_
    obtain rfl : i = 24 := by omega
    refine hK15 _ _ ?_; clear hK20 K19 hK15 K14
    refine wp_seq_k fun K110 hK111 => ?_
    refine region ?_
    refine sv ha (r_move ha rfl) rfl rfl rfl ?_; clear ha a; intro a ha
    refine sv ha (r_assign ha rfl) rfl rfl rfl ?_; clear ha a; intro a ha
    refine hK111 _ _ ?_; clear hK111 K110
    refine wp_ret ?_
    repeat (first | (with_reducible refine t_ret ?_) | (with_reducible refine x_ret ?_))
    exact ret1 ha Tryd.results34 rfl ⟨_, rfl, hB, hb6, hz6⟩
end Go.Proofs.YtaignhikdfpbbaaDoor
