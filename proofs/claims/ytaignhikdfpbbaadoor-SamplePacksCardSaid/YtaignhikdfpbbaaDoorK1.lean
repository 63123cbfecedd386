/- WALKS written by gen.py (own program) out of specs. -/
import Derived.Test.YtaignhikdfpbbaaDoorK0
namespace Go.Proofs.YtaignhikdfpbbaaDoor
open Go.RowKit Go.Rx
set_option maxRecDepth 100000
set_option maxHeartbeats 4000000
set_option linter.unusedVariables false
set_option linter.unusedSimpArgs false

theorem c_rot (x : UInt64) (k : Nat) (w0 : World) (hk : k ≤ 9223372036854775807) :
    Calls Tryd.prog 110 #[e64 x, en k] w0 fun e w' => e = .returned (e64 (rotl x k)) ∧ Below w0.heap.size w0 w' := by
  refine enter (args := [_, _]) Tryd.func110 rfl Tryd.ntmps110 rfl ?_
  intro a ha
  have hB := Below.refl w0.heap.size w0
  refine wp_seq_k fun K1 hK2 => ?_
  refine region ?_
  refine sv ha (r_assign ha rfl) rfl rfl rfl ?_; clear ha a; intro a ha
  refine hK2 _ _ ?_; clear hK2 K1
  refine wp_seq_k fun K3 hK4 => ?_
  refine region ?_
  refine sv ha (r_move ha rfl) rfl rfl rfl ?_; clear ha a; intro a ha
  refine sv ha (r_conv_n_u64 ha k Tryd.runUnderlying3 Tryd.runUnderlying45 rfl (by omega)) rfl rfl rfl ?_; clear ha a; intro a ha
  refine sv ha (rx_mask ha k 6 (by omega) (m := 63) rfl (by omega) rfl rfl) rfl rfl rfl ?_; clear ha a; intro a ha
  refine sv ha (r_assign ha rfl) rfl rfl rfl ?_; clear ha a; intro a ha
  refine hK4 _ _ ?_; clear hK4 K3
  refine wp_seq_k fun K5 hK6 => ?_
  refine region ?_
  refine sv ha (r_move ha rfl) rfl rfl rfl ?_; clear ha a; intro a ha
  refine sv ha (r_move ha rfl) rfl rfl rfl ?_; clear ha a; intro a ha
  refine sv ha (ru_shl ha x (k % 2 ^ 6) rfl rfl (by omega)) rfl rfl rfl ?_; clear ha a; intro a ha
  refine sv ha (r_move ha rfl) rfl rfl rfl ?_; clear ha a; intro a ha
  refine sv ha (r_move ha rfl) rfl rfl rfl ?_; clear ha a; intro a ha
  refine sv ha (rx_sub ha 64 (k % 2 ^ 6) rfl rfl (by omega) (by omega)) rfl rfl rfl ?_; clear ha a; intro a ha
  refine sv ha (ru_shrG ha x (64 - (k % 2 ^ 6)) rfl rfl) rfl rfl rfl ?_; clear ha a; intro a ha
  refine sv ha (ru_or ha (x <<< UInt64.ofNat (k % 2 ^ 6)) (shrG x (64 - (k % 2 ^ 6))) rfl rfl) rfl rfl rfl ?_; clear ha a; intro a ha
  refine sv ha (r_assign ha rfl) rfl rfl rfl ?_; clear ha a; intro a ha
  refine hK6 _ _ ?_; clear hK6 K5
  refine wp_ret ?_
  repeat (first | (with_reducible refine t_ret ?_) | (with_reducible refine x_ret ?_))
  exact ret1 ha Tryd.results110 rfl ⟨rfl, hB⟩

theorem zero_84K1 : ∀ w, (zeroValue 84).run Tryd.prog w = .ok (.agg ((List.replicate 25 (0 : UInt64)).map e64).toArray) w := fun _ => by kernel_rfl
theorem zero_110K1 : ∀ w, (zeroValue 110).run Tryd.prog w = .ok (.agg ((List.replicate 5 (0 : UInt64)).map e64).toArray) w := fun _ => by kernel_rfl
theorem c_theta (l : List UInt64) (w0 : World) (hl : l.length = 25) :
    Calls Tryd.prog 108 #[.agg ((l).map e64).toArray] w0 fun e w' => e = .returned (.agg ((theta l).map e64).toArray) ∧ Below w0.heap.size w0 w' := by
  refine enter (args := [_]) Tryd.func108 rfl Tryd.ntmps108 rfl ?_
  intro a ha
  have hB := Below.refl w0.heap.size w0
  refine wp_seq_k fun K1 hK2 => ?_
  refine region ?_
  refine sbox ha rfl rfl ?_
  clear ha a; intro a w3 b4 ha hg hb4 hge4 hlt4
  have hz4 : w0.heap.size ≤ b4 := Nat.le_trans hB.size hge4
  replace hB := keepB0 hg hB
  clear hg hge4 hlt4
  refine salloc ha zero_84K1 rfl ?_
  clear ha a; intro a w5 b6 ha hg hb6 hge6 hlt6
  have hz6 : w0.heap.size ≤ b6 := Nat.le_trans hB.size hge6
  have hq4_6 : b4 < b6 := Nat.lt_of_lt_of_le (lt_of_block hb4) hge6
  replace hB := keepB0 hg hB
  replace hb4 := keepO0 hg hb4
  clear hg hge6 hlt6
  refine hK2 _ _ ?_; clear hK2 K1
  refine wp_seq_k fun K7 hK8 => ?_
  refine region ?_
  refine salloc ha zero_110K1 rfl ?_
  clear ha a; intro a w9 b10 ha hg hb10 hge10 hlt10
  have hz10 : w0.heap.size ≤ b10 := Nat.le_trans hB.size hge10
  have hq4_10 : b4 < b10 := Nat.lt_of_lt_of_le (lt_of_block hb4) hge10
  have hq6_10 : b6 < b10 := Nat.lt_of_lt_of_le (lt_of_block hb6) hge10
  replace hB := keepB0 hg hB
  replace hb4 := keepO0 hg hb4
  replace hb6 := keepO0 hg hb6
  clear hg hge10 hlt10
  refine hK8 _ _ ?_; clear hK8 K7
  refine wp_seq_k fun K11 hK12 => ?_
  refine wp_seq_k fun K13 hK14 => ?_
  refine region ?_
  refine sv ha (r_move ha rfl) rfl rfl rfl ?_; clear ha a; intro a ha
  refine hK14 _ _ ?_; clear hK14 K13
  refine wp_block ?_
  refine loopG (fun (k : Nat) a w => (k ≤ 5) ∧ Has 60 [(0, .agg ((l).map e64).toArray), (1, .pointer (some ⟨b4, 0, none⟩)), (2, .pointer (some ⟨b6, 0, none⟩)), (3, .pointer (some ⟨b10, 0, none⟩)), (7, en k)] a ∧ Below w0.heap.size w0 w ∧ w.heap[b4]? = some (.cells ((l).map e64).toArray 84 (0, 0)) ∧ w.heap[b6]? = some (.cells ((List.replicate 25 (0 : UInt64)).map e64).toArray 84 (0, 0)) ∧ w.heap[b10]? = some (.cells ((thC l k).map e64).toArray 110 (0, 0))) (fun k => 5 - k) 0 ⟨(by omega), ha.to [0, 1, 2, 3, 7] rfl, hB, hb4, hb6, hb10⟩ ?_
  clear ha a hB hb4 hb6 hb10
  intro k a w15 ⟨hkk, ha, hB, hb4, hb6, hb10⟩
  refine wp_seq_k fun K16 hK17 => ?_
  refine region ?_
  refine sv ha (r_lss ha ((k : Nat) : Int) 5 (decide (k < 5)) rfl rfl (decide_eq_decide.2 (by omega))) rfl rfl rfl ?_; clear ha a; intro a ha
  refine hK17 _ _ ?_; clear hK17 K16
  refine wp_seq_k fun K18 hK19 => ?_
  refine cond_if ha rfl (fun hc20 => ?_) (fun hc20 => ?_)
  · skip
    replace hc20 := of_decide_eq_true hc20
    refine wp_skip ?_
    refine hK19 _ _ ?_; clear hK19 K18
    refine wp_seq_k fun K21 hK22 => ?_
    refine wp_block ?_
    refine wp_seq_k fun K23 hK24 => ?_
    refine region ?_
    refine sv ha (r_move ha rfl) rfl rfl rfl ?_; clear ha a; intro a ha
    refine sv ha (r_assign ha rfl) rfl rfl rfl ?_; clear ha a; intro a ha
    refine hK24 _ _ ?_; clear hK24 K23
    refine regionD (S := fun w => Below w0.heap.size w0 w ∧ w.heap[b4]? = some (.cells ((l).map e64).toArray 84 (0, 0)) ∧ w.heap[b6]? = some (.cells ((List.replicate 25 (0 : UInt64)).map e64).toArray 84 (0, 0)) ∧ w.heap[b10]? = some (.cells ((thC l k).map e64).toArray 110 (0, 0)) ∧ True) [25] [0, 1, 2, 3, 4, 5, 6, 7, 8, 9, 10, 11, 12, 13, 14, 15, 16, 17, 18, 19, 20, 21, 22, 23, 24] [0, 1, 2, 3, 4, 5, 6, 7, 8, 9, 10, 11, 12, 13, 14, 15, 16, 17, 18, 19, 20, 21, 22, 23, 24, 25] mixed (by kernel_rfl) (fun w hg => ⟨keepB0 hg hB, keepO0 hg hb4, keepO0 hg hb6, keepO0 hg hb10, trivial⟩) ?_
    intro w25 hg
    replace hB := keepB0 hg hB
    replace hb4 := keepO0 hg hb4
    replace hb6 := keepO0 hg hb6
    replace hb10 := keepO0 hg hb10
    clear hg
    refine cv ha rfl rfl (fun w _ => r_move ha rfl) rfl rfl rfl ?_; clear ha a; intro a ha
    refine cv ha rfl rfl (fun w _ => r_move ha rfl) rfl rfl rfl ?_; clear ha a; intro a ha
    refine cv ha rfl rfl (fun w _ => r_indexArr (i := k) ha k Tryd.runUnderlying84 Tryd.sizeOf83 rfl rfl (by omega) (by omega)) rfl rfl rfl ?_; clear ha a; intro a ha
    refine cv ha rfl rfl (fun w ⟨hB, hb4, hb6, hb10, _⟩ => r_load ha rfl Tryd.isAgg83 (cell_of hb4 (get_map e64 l 0 k (by rw [hl]; omega)))) rfl rfl rfl ?_; clear ha a; intro a ha
    refine cv ha rfl rfl (fun w _ => r_move ha rfl) rfl rfl rfl ?_; clear ha a; intro a ha
    refine cv ha rfl rfl (fun w _ => rn_add ha k 5 rfl rfl (by omega)) rfl rfl rfl ?_; clear ha a; intro a ha
    refine cv ha rfl rfl (fun w _ => r_indexArr (i := k + 5) ha (k + 5) Tryd.runUnderlying84 Tryd.sizeOf83 rfl rfl (by omega) (by omega)) rfl rfl rfl ?_; clear ha a; intro a ha
    refine cv ha rfl rfl (fun w ⟨hB, hb4, hb6, hb10, _⟩ => r_load ha rfl Tryd.isAgg83 (cell_of hb4 (get_map e64 l 0 (k + 5) (by rw [hl]; omega)))) rfl rfl rfl ?_; clear ha a; intro a ha
    refine cv ha rfl rfl (fun w _ => ru_xor ha (l.getD k 0) (l.getD (k + 5) 0) rfl rfl) rfl rfl rfl ?_; clear ha a; intro a ha
    refine cv ha rfl rfl (fun w _ => r_move ha rfl) rfl rfl rfl ?_; clear ha a; intro a ha
    refine cv ha rfl rfl (fun w _ => rn_add ha k 10 rfl rfl (by omega)) rfl rfl rfl ?_; clear ha a; intro a ha
    refine cv ha rfl rfl (fun w _ => r_indexArr (i := k + 10) ha (k + 10) Tryd.runUnderlying84 Tryd.sizeOf83 rfl rfl (by omega) (by omega)) rfl rfl rfl ?_; clear ha a; intro a ha
    refine cv ha rfl rfl (fun w ⟨hB, hb4, hb6, hb10, _⟩ => r_load ha rfl Tryd.isAgg83 (cell_of hb4 (get_map e64 l 0 (k + 10) (by rw [hl]; omega)))) rfl rfl rfl ?_; clear ha a; intro a ha
    refine cv ha rfl rfl (fun w _ => ru_xor ha ((l.getD k 0) ^^^ (l.getD (k + 5) 0)) (l.getD (k + 10) 0) rfl rfl) rfl rfl rfl ?_; clear ha a; intro a ha
    refine cv ha rfl rfl (fun w _ => r_move ha rfl) rfl rfl rfl ?_; clear ha a; intro a ha
    refine cv ha rfl rfl (fun w _ => rn_add ha k 15 rfl rfl (by omega)) rfl rfl rfl ?_; clear ha a; intro a ha
    refine cv ha rfl rfl (fun w _ => r_indexArr (i := k + 15) ha (k + 15) Tryd.runUnderlying84 Tryd.sizeOf83 rfl rfl (by omega) (by omega)) rfl rfl rfl ?_; clear ha a; intro a ha
    refine cv ha rfl rfl (fun w ⟨hB, hb4, hb6, hb10, _⟩ => r_load ha rfl Tryd.isAgg83 (cell_of hb4 (get_map e64 l 0 (k + 15) (by rw [hl]; omega)))) rfl rfl rfl ?_; clear ha a; intro a ha
    refine cv ha rfl rfl (fun w _ => ru_xor ha (((l.getD k 0) ^^^ (l.getD (k + 5) 0)) ^^^ (l.getD (k + 10) 0)) (l.getD (k + 15) 0) rfl rfl) rfl rfl rfl ?_; clear ha a; intro a ha
    refine cv ha rfl rfl (fun w _ => r_move ha rfl) rfl rfl rfl ?_; clear ha a; intro a ha
    refine cv ha rfl rfl (fun w _ => rn_add ha k 20 rfl rfl (by omega)) rfl rfl rfl ?_; clear ha a; intro a ha
    refine cv ha rfl rfl (fun w _ => r_indexArr (i := k + 20) ha (k + 20) Tryd.runUnderlying84 Tryd.sizeOf83 rfl rfl (by omega) (by omega)) rfl rfl rfl ?_; clear ha a; intro a ha
    refine cv ha rfl rfl (fun w ⟨hB, hb4, hb6, hb10, _⟩ => r_load ha rfl Tryd.isAgg83 (cell_of hb4 (get_map e64 l 0 (k + 20) (by rw [hl]; omega)))) rfl rfl rfl ?_; clear ha a; intro a ha
    refine cv ha rfl rfl (fun w _ => ru_xor ha ((((l.getD k 0) ^^^ (l.getD (k + 5) 0)) ^^^ (l.getD (k + 10) 0)) ^^^ (l.getD (k + 15) 0)) (l.getD (k + 20) 0) rfl rfl) rfl rfl rfl ?_; clear ha a; intro a ha
    refine cv ha rfl rfl (fun w _ => r_indexArr (i := k) ha k Tryd.runUnderlying110 Tryd.sizeOf83 rfl rfl (by omega) (by omega)) rfl rfl rfl ?_; clear ha a; intro a ha
    refine cstore ha rfl rfl (v := e64 (((((l.getD k 0) ^^^ (l.getD (k + 5) 0)) ^^^ (l.getD (k + 10) 0)) ^^^ (l.getD (k + 15) 0)) ^^^ (l.getD (k + 20) 0))) rfl rfl rfl rfl Tryd.sizeOf83 hb10 (by rw [List.length_map, thC_len]; omega) rfl ?_
    clear ha a; intro a w26 ha hg hb10'
    rw [set_map] at hb10'
    clear hb10; have hb10 := hb10'; clear hb10'
    replace hB := keepB1 hg (by omega) hB
    replace hb4 := keepO1 hg (by omega) hb4
    replace hb6 := keepO1 hg (by omega) hb6
    clear hg
    refine cfin (hK22 _ _ ?_); clear hK22 K21
    refine region ?_
    refine sv ha (rn_add ha k 1 rfl rfl (by omega)) rfl rfl rfl ?_; clear ha a; intro a ha
    refine sv ha (r_move ha rfl) rfl rfl rfl ?_; clear ha a; intro a ha
    exact ⟨k + 1, by omega, (by omega), ha.to [0, 1, 2, 3, 7] rfl, hB, hb4, hb6, hb10⟩
  · skip
    replace hc20 := of_decide_eq_false hc20
    refine wp_exit ?_
    obtain rfl : k = 5 := by omega
    refine hK12 _ _ ?_; clear hK19 K18 hK12 K11
    refine wp_seq_k fun K27 hK28 => ?_
    refine wp_seq_k fun K29 hK30 => ?_
    refine region ?_
    refine sv ha (r_move ha rfl) rfl rfl rfl ?_; clear ha a; intro a ha
    refine hK30 _ _ ?_; clear hK30 K29
    refine wp_block ?_
    refine loopG (fun (k : Nat) a w => (k ≤ 25) ∧ Has 60 [(0, .agg ((l).map e64).toArray), (1, .pointer (some ⟨b4, 0, none⟩)), (2, .pointer (some ⟨b6, 0, none⟩)), (3, .pointer (some ⟨b10, 0, none⟩)), (7, en 5), (8, .bool (decide (5 < 5))), (36, en k)] a ∧ Below w0.heap.size w0 w ∧ w.heap[b4]? = some (.cells ((thA l k).map e64).toArray 84 (0, 0)) ∧ w.heap[b6]? = some (.cells ((List.replicate 25 (0 : UInt64)).map e64).toArray 84 (0, 0)) ∧ w.heap[b10]? = some (.cells ((thC l 5).map e64).toArray 110 (0, 0))) (fun k => 25 - k) 0 ⟨(by omega), ha.to [0, 1, 2, 3, 7, 8, 36] rfl, hB, hb4, hb6, hb10⟩ ?_
    clear ha a hB hb4 hb6 hb10
    intro k a w31 ⟨hkk, ha, hB, hb4, hb6, hb10⟩
    refine wp_seq_k fun K32 hK33 => ?_
    refine region ?_
    refine sv ha (r_lss ha ((k : Nat) : Int) 25 (decide (k < 25)) rfl rfl (decide_eq_decide.2 (by omega))) rfl rfl rfl ?_; clear ha a; intro a ha
    refine hK33 _ _ ?_; clear hK33 K32
    refine wp_seq_k fun K34 hK35 => ?_
    refine cond_if ha rfl (fun hc36 => ?_) (fun hc36 => ?_)
    · skip
      replace hc36 := of_decide_eq_true hc36
      refine wp_skip ?_
      refine hK35 _ _ ?_; clear hK35 K34
      refine wp_seq_k fun K37 hK38 => ?_
      refine wp_block ?_
      refine wp_seq_k fun K39 hK40 => ?_
      refine region ?_
      refine sv ha (r_move ha rfl) rfl rfl rfl ?_; clear ha a; intro a ha
      refine sv ha (r_assign ha rfl) rfl rfl rfl ?_; clear ha a; intro a ha
      refine hK40 _ _ ?_; clear hK40 K39
      refine wp_seq_k fun K41 hK42 => ?_
      refine region ?_
      refine sv ha (r_move ha rfl) rfl rfl rfl ?_; clear ha a; intro a ha
      refine sv ha (rn_rem ha k 5 rfl rfl (by omega)) rfl rfl rfl ?_; clear ha a; intro a ha
      refine sv ha (r_assign ha rfl) rfl rfl rfl ?_; clear ha a; intro a ha
      refine hK42 _ _ ?_; clear hK42 K41
      refine regionD (S := fun w => Below w0.heap.size w0 w ∧ w.heap[b4]? = some (.cells ((thA l k).map e64).toArray 84 (0, 0)) ∧ w.heap[b6]? = some (.cells ((List.replicate 25 (0 : UInt64)).map e64).toArray 84 (0, 0)) ∧ w.heap[b10]? = some (.cells ((thC l 5).map e64).toArray 110 (0, 0)) ∧ True) [17] [0, 1, 2, 3, 4, 5, 6, 7, 8, 9, 10, 11, 12, 14, 15, 16] [0, 1, 2, 3, 4, 5, 6, 7, 8, 9, 10, 11, 12, 13, 14, 15, 16, 17] mixed (by kernel_rfl) (fun w hg => ⟨keepB0 hg hB, keepO0 hg hb4, keepO0 hg hb6, keepO0 hg hb10, trivial⟩) ?_
      intro w43 hg
      replace hB := keepB0 hg hB
      replace hb4 := keepO0 hg hb4
      replace hb6 := keepO0 hg hb6
      replace hb10 := keepO0 hg hb10
      clear hg
      refine cv ha rfl rfl (fun w _ => r_move ha rfl) rfl rfl rfl ?_; clear ha a; intro a ha
      refine cv ha rfl rfl (fun w _ => r_indexArr (i := k) ha k Tryd.runUnderlying84 Tryd.sizeOf83 rfl rfl (by omega) (by omega)) rfl rfl rfl ?_; clear ha a; intro a ha
      refine cv ha rfl rfl (fun w ⟨hB, hb4, hb6, hb10, _⟩ => r_load ha rfl Tryd.isAgg83 (cell_of hb4 (get_map e64 (thA l k) 0 k (by rw [thA_len, hl]; omega)))) rfl rfl rfl ?_; clear ha a; intro a ha
      refine cv ha rfl rfl (fun w _ => r_move ha rfl) rfl rfl rfl ?_; clear ha a; intro a ha
      refine cv ha rfl rfl (fun w _ => rn_add ha (k % 5) 4 rfl rfl (by omega)) rfl rfl rfl ?_; clear ha a; intro a ha
      refine cv ha rfl rfl (fun w _ => rn_rem ha ((k % 5) + 4) 5 rfl rfl (by omega)) rfl rfl rfl ?_; clear ha a; intro a ha
      refine cv ha rfl rfl (fun w _ => r_indexArr (i := ((k % 5) + 4) % 5) ha (((k % 5) + 4) % 5) Tryd.runUnderlying110 Tryd.sizeOf83 rfl rfl (by omega) (by omega)) rfl rfl rfl ?_; clear ha a; intro a ha
      refine cv ha rfl rfl (fun w ⟨hB, hb4, hb6, hb10, _⟩ => r_load ha rfl Tryd.isAgg83 (cell_of hb10 (get_map e64 (thC l 5) 0 (((k % 5) + 4) % 5) (by rw [thC_len]; omega)))) rfl rfl rfl ?_; clear ha a; intro a ha
      refine cv ha rfl rfl (fun w _ => r_move ha rfl) rfl rfl rfl ?_; clear ha a; intro a ha
      refine cv ha rfl rfl (fun w _ => rn_add ha (k % 5) 1 rfl rfl (by omega)) rfl rfl rfl ?_; clear ha a; intro a ha
      refine cv ha rfl rfl (fun w _ => rn_rem ha ((k % 5) + 1) 5 rfl rfl (by omega)) rfl rfl rfl ?_; clear ha a; intro a ha
      refine cv ha rfl rfl (fun w _ => r_indexArr (i := ((k % 5) + 1) % 5) ha (((k % 5) + 1) % 5) Tryd.runUnderlying110 Tryd.sizeOf83 rfl rfl (by omega) (by omega)) rfl rfl rfl ?_; clear ha a; intro a ha
      refine cv ha rfl rfl (fun w ⟨hB, hb4, hb6, hb10, _⟩ => r_load ha rfl Tryd.isAgg83 (cell_of hb10 (get_map e64 (thC l 5) 0 (((k % 5) + 1) % 5) (by rw [thC_len]; omega)))) rfl rfl rfl ?_; clear ha a; intro a ha
      refine cc ha rfl rfl (r_call ha [e64 ((thC l 5).getD (((k % 5) + 1) % 5) 0), en 1] rfl Tryd.call110) rfl rfl rfl (c_rot ((thC l 5).getD (((k % 5) + 1) % 5) 0) 1 _ (by omega)) ?_
      clear ha a
      rintro e w44 ⟨rfl, hBc⟩
      have hg := grown_call hBc; clear hBc
      replace hB := keepB0 hg hB
      replace hb4 := keepO0 hg hb4
      replace hb6 := keepO0 hg hb6
      replace hb10 := keepO0 hg hb10
      clear hg
      refine ⟨fun _ => ⟨hB, hb4, hb6, hb10, trivial⟩, _, rfl, ?_⟩; intro a ha
      refine cv ha rfl rfl (fun w _ => ru_xor ha ((thC l 5).getD (((k % 5) + 4) % 5) 0) (rotl ((thC l 5).getD (((k % 5) + 1) % 5) 0) 1) rfl rfl) rfl rfl rfl ?_; clear ha a; intro a ha
      refine cv ha rfl rfl (fun w _ => ru_xor ha ((thA l k).getD k 0) (((thC l 5).getD (((k % 5) + 4) % 5) 0) ^^^ (rotl ((thC l 5).getD (((k % 5) + 1) % 5) 0) 1)) rfl rfl) rfl rfl rfl ?_; clear ha a; intro a ha
      refine cv ha rfl rfl (fun w _ => r_indexArr (i := k) ha k Tryd.runUnderlying84 Tryd.sizeOf83 rfl rfl (by omega) (by omega)) rfl rfl rfl ?_; clear ha a; intro a ha
      refine cstore ha rfl rfl (v := e64 (((thA l k).getD k 0) ^^^ (((thC l 5).getD (((k % 5) + 4) % 5) 0) ^^^ (rotl ((thC l 5).getD (((k % 5) + 1) % 5) 0) 1)))) rfl rfl rfl rfl Tryd.sizeOf83 hb4 (by rw [List.length_map, thA_len, hl]; omega) rfl ?_
      clear ha a; intro a w45 ha hg hb4'
      rw [set_map] at hb4'
      clear hb4; have hb4 := hb4'; clear hb4'
      replace hB := keepB1 hg (by omega) hB
      replace hb6 := keepO1 hg (by omega) hb6
      replace hb10 := keepO1 hg (by omega) hb10
      clear hg
      refine cfin (hK38 _ _ ?_); clear hK38 K37
      refine region ?_
      refine sv ha (rn_add ha k 1 rfl rfl (by omega)) rfl rfl rfl ?_; clear ha a; intro a ha
      refine sv ha (r_move ha rfl) rfl rfl rfl ?_; clear ha a; intro a ha
      exact ⟨k + 1, by omega, (by omega), ha.to [0, 1, 2, 3, 7, 8, 36] rfl, hB, hb4, hb6, hb10⟩
    · skip
      replace hc36 := of_decide_eq_false hc36
      refine wp_exit ?_
      obtain rfl : k = 25 := by omega
      refine hK28 _ _ ?_; clear hK35 K34 hK28 K27
      refine wp_seq_k fun K46 hK47 => ?_
      refine region ?_
      refine sv ha (r_loadR ha rfl Tryd.isAgg84 Tryd.sizeOf84 (C := (thA l 25).map e64) (by rw [List.length_map, thA_len, hl]) (cells_all hb4)) rfl rfl rfl ?_; clear ha a; intro a ha
      refine sstoreW ha rfl rfl (one_e64 _) Tryd.sizeOf84 (by rw [List.length_map, thA_len, hl]) hb6 (by rw [List.length_map, List.length_replicate]) ?_
      clear ha a; intro a w48 ha hg hb6'
      clear hb6; have hb6 := hb6'; clear hb6'
      replace hB := keepB1 hg (by omega) hB
      replace hb4 := keepO1 hg (by omega) hb4
      replace hb10 := keepO1 hg (by omega) hb10
      clear hg
      refine hK47 _ _ ?_; clear hK47 K46
      refine wp_ret ?_
      repeat (first | (with_reducible refine t_ret ?_) | (with_reducible refine x_ret ?_))
      exact retC _ ha Tryd.results108 rfl hb6 Tryd.underlying84 rfl (by rw [List.length_map, thA_len, hl]; kernel_rfl) ⟨rfl, hB⟩

theorem c_rho (l : List UInt64) (w0 : World) (hl : l.length = 25) (hG : Glob w0) :
    Calls Tryd.prog 107 #[.agg ((l).map e64).toArray] w0 fun e w' => e = .returned (.agg ((rho l).map e64).toArray) ∧ Below w0.heap.size w0 w' := by
  refine enter (args := [_]) Tryd.func107 rfl Tryd.ntmps107 rfl ?_
  intro a ha
  have hB := Below.refl w0.heap.size w0
  refine wp_seq_k fun K1 hK2 => ?_
  refine region ?_
  refine sbox ha rfl rfl ?_
  clear ha a; intro a w3 b4 ha hg hb4 hge4 hlt4
  have hz4 : w0.heap.size ≤ b4 := Nat.le_trans hB.size hge4
  replace hB := keepB0 hg hB
  clear hg hge4 hlt4
  refine salloc ha zero_84K1 rfl ?_
  clear ha a; intro a w5 b6 ha hg hb6 hge6 hlt6
  have hz6 : w0.heap.size ≤ b6 := Nat.le_trans hB.size hge6
  have hq4_6 : b4 < b6 := Nat.lt_of_lt_of_le (lt_of_block hb4) hge6
  replace hB := keepB0 hg hB
  replace hb4 := keepO0 hg hb4
  clear hg hge6 hlt6
  refine hK2 _ _ ?_; clear hK2 K1
  refine wp_seq_k fun K7 hK8 => ?_
  refine wp_seq_k fun K9 hK10 => ?_
  refine region ?_
  refine sv ha (r_move ha rfl) rfl rfl rfl ?_; clear ha a; intro a ha
  refine hK10 _ _ ?_; clear hK10 K9
  refine wp_block ?_
  refine loopG (fun (k : Nat) a w => (k ≤ 25) ∧ Has 18 [(0, .agg ((l).map e64).toArray), (1, .pointer (some ⟨b4, 0, none⟩)), (2, .pointer (some ⟨b6, 0, none⟩)), (4, en k)] a ∧ Below w0.heap.size w0 w ∧ w.heap[b4]? = some (.cells ((rhoA l k).map e64).toArray 84 (0, 0)) ∧ w.heap[b6]? = some (.cells ((List.replicate 25 (0 : UInt64)).map e64).toArray 84 (0, 0))) (fun k => 25 - k) 0 ⟨(by omega), ha.to [0, 1, 2, 4] rfl, hB, hb4, hb6⟩ ?_
  clear ha a hB hb4 hb6
  intro k a w11 ⟨hkk, ha, hB, hb4, hb6⟩
  refine wp_seq_k fun K12 hK13 => ?_
  refine region ?_
  refine sv ha (r_lss ha ((k : Nat) : Int) 25 (decide (k < 25)) rfl rfl (decide_eq_decide.2 (by omega))) rfl rfl rfl ?_; clear ha a; intro a ha
  refine hK13 _ _ ?_; clear hK13 K12
  refine wp_seq_k fun K14 hK15 => ?_
  refine cond_if ha rfl (fun hc16 => ?_) (fun hc16 => ?_)
  · skip
    replace hc16 := of_decide_eq_true hc16
    refine wp_skip ?_
    refine hK15 _ _ ?_; clear hK15 K14
    refine wp_seq_k fun K17 hK18 => ?_
    refine wp_block ?_
    refine wp_seq_k fun K19 hK20 => ?_
    refine region ?_
    refine sv ha (r_move ha rfl) rfl rfl rfl ?_; clear ha a; intro a ha
    refine sv ha (r_assign ha rfl) rfl rfl rfl ?_; clear ha a; intro a ha
    refine hK20 _ _ ?_; clear hK20 K19
    refine regionD (S := fun w => Below w0.heap.size w0 w ∧ w.heap[b4]? = some (.cells ((rhoA l k).map e64).toArray 84 (0, 0)) ∧ w.heap[b6]? = some (.cells ((List.replicate 25 (0 : UInt64)).map e64).toArray 84 (0, 0)) ∧ True) [9] [0, 1, 2, 3, 4, 5, 6, 8] [0, 1, 2, 3, 4, 5, 6, 7, 8, 9] mixed (by kernel_rfl) (fun w hg => ⟨keepB0 hg hB, keepO0 hg hb4, keepO0 hg hb6, trivial⟩) ?_
    intro w21 hg
    replace hB := keepB0 hg hB
    replace hb4 := keepO0 hg hb4
    replace hb6 := keepO0 hg hb6
    clear hg
    refine cv ha rfl rfl (fun w _ => r_move ha rfl) rfl rfl rfl ?_; clear ha a; intro a ha
    refine cv ha rfl rfl (fun w _ => r_move ha rfl) rfl rfl rfl ?_; clear ha a; intro a ha
    refine cv ha rfl rfl (fun w _ => r_indexArr (i := k) ha k Tryd.runUnderlying84 Tryd.sizeOf83 rfl rfl (by omega) (by omega)) rfl rfl rfl ?_; clear ha a; intro a ha
    refine cv ha rfl rfl (fun w ⟨hB, hb4, hb6, _⟩ => r_load ha rfl Tryd.isAgg83 (cell_of hb4 (get_map e64 (rhoA l k) 0 k (by rw [rhoA_len, hl]; omega)))) rfl rfl rfl ?_; clear ha a; intro a ha
    refine cv ha rfl rfl (fun w _ => r_move ha rfl) rfl rfl rfl ?_; clear ha a; intro a ha
    refine cv ha rfl rfl (fun w _ => r_indexArr (i := k) ha k Tryd.runUnderlying109 Tryd.sizeOf3 rfl rfl (by omega) (by omega)) rfl rfl rfl ?_; clear ha a; intro a ha
    refine cv ha rfl rfl (fun w ⟨hB, hb4, hb6, _⟩ => r_load ha rfl Tryd.isAgg3 (cell_glob (glob_2 hG hB) (get_map en turns 0 k (show _ < 25 by omega)))) rfl rfl rfl ?_; clear ha a; intro a ha
    refine cc ha rfl rfl (r_call ha [e64 ((rhoA l k).getD k 0), en (turns.getD k 0)] rfl Tryd.call110) rfl rfl rfl (c_rot ((rhoA l k).getD k 0) (turns.getD k 0) _ (by have := turns_lt k (by omega); omega)) ?_
    clear ha a
    rintro e w22 ⟨rfl, hBc⟩
    have hg := grown_call hBc; clear hBc
    replace hB := keepB0 hg hB
    replace hb4 := keepO0 hg hb4
    replace hb6 := keepO0 hg hb6
    clear hg
    refine ⟨fun _ => ⟨hB, hb4, hb6, trivial⟩, _, rfl, ?_⟩; intro a ha
    refine cv ha rfl rfl (fun w _ => r_indexArr (i := k) ha k Tryd.runUnderlying84 Tryd.sizeOf83 rfl rfl (by omega) (by omega)) rfl rfl rfl ?_; clear ha a; intro a ha
    refine cstore ha rfl rfl (v := e64 (rotl ((rhoA l k).getD k 0) (turns.getD k 0))) rfl rfl rfl rfl Tryd.sizeOf83 hb4 (by rw [List.length_map, rhoA_len, hl]; omega) rfl ?_
    clear ha a; intro a w23 ha hg hb4'
    rw [set_map] at hb4'
    clear hb4; have hb4 := hb4'; clear hb4'
    replace hB := keepB1 hg (by omega) hB
    replace hb6 := keepO1 hg (by omega) hb6
    clear hg
    refine cfin (hK18 _ _ ?_); clear hK18 K17
    refine region ?_
    refine sv ha (rn_add ha k 1 rfl rfl (by omega)) rfl rfl rfl ?_; clear ha a; intro a ha
    refine sv ha (r_move ha rfl) rfl rfl rfl ?_; clear ha a; intro a ha
    exact ⟨k + 1, by omega, (by omega), ha.to [0, 1, 2, 4] rfl, hB, hb4, hb6⟩
  · skip
    replace hc16 := of_decide_eq_false hc16
    refine wp_exit ?_
    obtain rfl : k = 25 := by omega
    refine hK8 _ _ ?_; clear hK15 K14 hK8 K7
    refine wp_seq_k fun K24 hK25 => ?_
    refine region ?_
    refine sv ha (r_loadR ha rfl Tryd.isAgg84 Tryd.sizeOf84 (C := (rhoA l 25).map e64) (by rw [List.length_map, rhoA_len, hl]) (cells_all hb4)) rfl rfl rfl ?_; clear ha a; intro a ha
    refine sstoreW ha rfl rfl (one_e64 _) Tryd.sizeOf84 (by rw [List.length_map, rhoA_len, hl]) hb6 (by rw [List.length_map, List.length_replicate]) ?_
    clear ha a; intro a w26 ha hg hb6'
    clear hb6; have hb6 := hb6'; clear hb6'
    replace hB := keepB1 hg (by omega) hB
    replace hb4 := keepO1 hg (by omega) hb4
    clear hg
    refine hK25 _ _ ?_; clear hK25 K24
    refine wp_ret ?_
    repeat (first | (with_reducible refine t_ret ?_) | (with_reducible refine x_ret ?_))
    exact retC _ ha Tryd.results107 rfl hb6 Tryd.underlying84 rfl (by rw [List.length_map, rhoA_len, hl]; kernel_rfl) ⟨rfl, hB⟩

theorem c_pi (l : List UInt64) (w0 : World) (hl : l.length = 25) :
    Calls Tryd.prog 106 #[.agg ((l).map e64).toArray] w0 fun e w' => e = .returned (.agg ((pi l).map e64).toArray) ∧ Below w0.heap.size w0 w' := by
  refine enter (args := [_]) Tryd.func106 rfl Tryd.ntmps106 rfl ?_
  intro a ha
  have hB := Below.refl w0.heap.size w0
  refine wp_seq_k fun K1 hK2 => ?_
  refine region ?_
  refine sbox ha rfl rfl ?_
  clear ha a; intro a w3 b4 ha hg hb4 hge4 hlt4
  have hz4 : w0.heap.size ≤ b4 := Nat.le_trans hB.size hge4
  replace hB := keepB0 hg hB
  clear hg hge4 hlt4
  refine salloc ha zero_84K1 rfl ?_
  clear ha a; intro a w5 b6 ha hg hb6 hge6 hlt6
  have hz6 : w0.heap.size ≤ b6 := Nat.le_trans hB.size hge6
  have hq4_6 : b4 < b6 := Nat.lt_of_lt_of_le (lt_of_block hb4) hge6
  replace hB := keepB0 hg hB
  replace hb4 := keepO0 hg hb4
  clear hg hge6 hlt6
  refine hK2 _ _ ?_; clear hK2 K1
  refine wp_seq_k fun K7 hK8 => ?_
  refine region ?_
  refine salloc ha zero_84K1 rfl ?_
  clear ha a; intro a w9 b10 ha hg hb10 hge10 hlt10
  have hz10 : w0.heap.size ≤ b10 := Nat.le_trans hB.size hge10
  have hq4_10 : b4 < b10 := Nat.lt_of_lt_of_le (lt_of_block hb4) hge10
  have hq6_10 : b6 < b10 := Nat.lt_of_lt_of_le (lt_of_block hb6) hge10
  replace hB := keepB0 hg hB
  replace hb4 := keepO0 hg hb4
  replace hb6 := keepO0 hg hb6
  clear hg hge10 hlt10
  refine hK8 _ _ ?_; clear hK8 K7
  refine wp_seq_k fun K11 hK12 => ?_
  refine wp_seq_k fun K13 hK14 => ?_
  refine region ?_
  refine sv ha (r_move ha rfl) rfl rfl rfl ?_; clear ha a; intro a ha
  refine hK14 _ _ ?_; clear hK14 K13
  refine wp_block ?_
  refine loopG (fun (k : Nat) a w => (k ≤ 25) ∧ Has 28 [(0, .agg ((l).map e64).toArray), (1, .pointer (some ⟨b4, 0, none⟩)), (2, .pointer (some ⟨b6, 0, none⟩)), (3, .pointer (some ⟨b10, 0, none⟩)), (7, en k)] a ∧ Below w0.heap.size w0 w ∧ w.heap[b4]? = some (.cells ((l).map e64).toArray 84 (0, 0)) ∧ w.heap[b6]? = some (.cells ((List.replicate 25 (0 : UInt64)).map e64).toArray 84 (0, 0)) ∧ w.heap[b10]? = some (.cells ((piA l k).map e64).toArray 84 (0, 0))) (fun k => 25 - k) 0 ⟨(by omega), ha.to [0, 1, 2, 3, 7] rfl, hB, hb4, hb6, hb10⟩ ?_
  clear ha a hB hb4 hb6 hb10
  intro k a w15 ⟨hkk, ha, hB, hb4, hb6, hb10⟩
  refine wp_seq_k fun K16 hK17 => ?_
  refine region ?_
  refine sv ha (r_lss ha ((k : Nat) : Int) 25 (decide (k < 25)) rfl rfl (decide_eq_decide.2 (by omega))) rfl rfl rfl ?_; clear ha a; intro a ha
  refine hK17 _ _ ?_; clear hK17 K16
  refine wp_seq_k fun K18 hK19 => ?_
  refine cond_if ha rfl (fun hc20 => ?_) (fun hc20 => ?_)
  · skip
    replace hc20 := of_decide_eq_true hc20
    refine wp_skip ?_
    refine hK19 _ _ ?_; clear hK19 K18
    refine wp_seq_k fun K21 hK22 => ?_
    refine wp_block ?_
    refine wp_seq_k fun K23 hK24 => ?_
    refine region ?_
    refine sv ha (r_move ha rfl) rfl rfl rfl ?_; clear ha a; intro a ha
    refine sv ha (r_assign ha rfl) rfl rfl rfl ?_; clear ha a; intro a ha
    refine hK24 _ _ ?_; clear hK24 K23
    refine wp_seq_k fun K25 hK26 => ?_
    refine region ?_
    refine sv ha (r_move ha rfl) rfl rfl rfl ?_; clear ha a; intro a ha
    refine sv ha (rn_rem ha k 5 rfl rfl (by omega)) rfl rfl rfl ?_; clear ha a; intro a ha
    refine sv ha (r_move ha rfl) rfl rfl rfl ?_; clear ha a; intro a ha
    refine sv ha (rn_quo ha k 5 rfl rfl (by omega) (by omega)) rfl rfl rfl ?_; clear ha a; intro a ha
    refine sv ha (r_assign ha rfl) rfl rfl rfl ?_; clear ha a; intro a ha
    refine sv ha (r_assign ha rfl) rfl rfl rfl ?_; clear ha a; intro a ha
    refine hK26 _ _ ?_; clear hK26 K25
    refine region ?_
    refine sv ha (r_move ha rfl) rfl rfl rfl ?_; clear ha a; intro a ha
    refine sv ha (r_move ha rfl) rfl rfl rfl ?_; clear ha a; intro a ha
    refine sv ha (r_move ha rfl) rfl rfl rfl ?_; clear ha a; intro a ha
    refine sv ha (rn_mul ha 3 (k / 5) rfl rfl (by omega)) rfl rfl rfl ?_; clear ha a; intro a ha
    refine sv ha (rn_add ha (k % 5) (3 * (k / 5)) rfl rfl (by omega)) rfl rfl rfl ?_; clear ha a; intro a ha
    refine sv ha (rn_rem ha ((k % 5) + (3 * (k / 5))) 5 rfl rfl (by omega)) rfl rfl rfl ?_; clear ha a; intro a ha
    refine sv ha (r_move ha rfl) rfl rfl rfl ?_; clear ha a; intro a ha
    refine sv ha (rn_mul ha 5 (k % 5) rfl rfl (by omega)) rfl rfl rfl ?_; clear ha a; intro a ha
    refine sv ha (rn_add ha (((k % 5) + (3 * (k / 5))) % 5) (5 * (k % 5)) rfl rfl (by omega)) rfl rfl rfl ?_; clear ha a; intro a ha
    refine sv ha (r_indexArr (i := (((k % 5) + (3 * (k / 5))) % 5) + (5 * (k % 5))) ha ((((k % 5) + (3 * (k / 5))) % 5) + (5 * (k % 5))) Tryd.runUnderlying84 Tryd.sizeOf83 rfl rfl (by omega) (by omega)) rfl rfl rfl ?_; clear ha a; intro a ha
    refine sv ha (r_load ha rfl Tryd.isAgg83 (cell_of hb4 (get_map e64 l 0 ((((k % 5) + (3 * (k / 5))) % 5) + (5 * (k % 5))) (by rw [hl]; omega)))) rfl rfl rfl ?_; clear ha a; intro a ha
    refine sv ha (r_indexArr (i := k) ha k Tryd.runUnderlying84 Tryd.sizeOf83 rfl rfl (by omega) (by omega)) rfl rfl rfl ?_; clear ha a; intro a ha
    refine sstore ha (v := e64 (l.getD ((((k % 5) + (3 * (k / 5))) % 5) + (5 * (k % 5))) 0)) rfl rfl rfl rfl Tryd.sizeOf83 hb10 (by rw [List.length_map, piA_len]; omega) ?_
    clear ha a; intro a w27 ha hg hb10'
    rw [set_map] at hb10'
    clear hb10; have hb10 := hb10'; clear hb10'
    replace hB := keepB1 hg (by omega) hB
    replace hb4 := keepO1 hg (by omega) hb4
    replace hb6 := keepO1 hg (by omega) hb6
    clear hg
    refine hK22 _ _ ?_; clear hK22 K21
    refine region ?_
    refine sv ha (rn_add ha k 1 rfl rfl (by omega)) rfl rfl rfl ?_; clear ha a; intro a ha
    refine sv ha (r_move ha rfl) rfl rfl rfl ?_; clear ha a; intro a ha
    exact ⟨k + 1, by omega, (by omega), ha.to [0, 1, 2, 3, 7] rfl, hB, hb4, hb6, hb10⟩
  · skip
    replace hc20 := of_decide_eq_false hc20
    refine wp_exit ?_
    obtain rfl : k = 25 := by omega
    refine hK12 _ _ ?_; clear hK19 K18 hK12 K11
    refine wp_seq_k fun K28 hK29 => ?_
    refine region ?_
    refine sv ha (r_loadR ha rfl Tryd.isAgg84 Tryd.sizeOf84 (C := (piA l 25).map e64) (by rw [List.length_map, piA_len]) (cells_all hb10)) rfl rfl rfl ?_; clear ha a; intro a ha
    refine sstoreW ha rfl rfl (one_e64 _) Tryd.sizeOf84 (by rw [List.length_map, piA_len]) hb6 (by rw [List.length_map, List.length_replicate]) ?_
    clear ha a; intro a w30 ha hg hb6'
    clear hb6; have hb6 := hb6'; clear hb6'
    replace hB := keepB1 hg (by omega) hB
    replace hb4 := keepO1 hg (by omega) hb4
    replace hb10 := keepO1 hg (by omega) hb10
    clear hg
    refine hK29 _ _ ?_; clear hK29 K28
    refine wp_ret ?_
    repeat (first | (with_reducible refine t_ret ?_) | (with_reducible refine x_ret ?_))
    exact retC _ ha Tryd.results106 rfl hb6 Tryd.underlying84 rfl (by rw [List.length_map, piA_len]; kernel_rfl) ⟨rfl, hB⟩

theorem c_chi (l : List UInt64) (w0 : World) (hl : l.length = 25) :
    Calls Tryd.prog 105 #[.agg ((l).map e64).toArray] w0 fun e w' => e = .returned (.agg ((chi l).map e64).toArray) ∧ Below w0.heap.size w0 w' := by
  refine enter (args := [_]) Tryd.func105 rfl Tryd.ntmps105 rfl ?_
  intro a ha
  have hB := Below.refl w0.heap.size w0
  refine wp_seq_k fun K1 hK2 => ?_
  refine region ?_
  refine sbox ha rfl rfl ?_
  clear ha a; intro a w3 b4 ha hg hb4 hge4 hlt4
  have hz4 : w0.heap.size ≤ b4 := Nat.le_trans hB.size hge4
  replace hB := keepB0 hg hB
  clear hg hge4 hlt4
  refine salloc ha zero_84K1 rfl ?_
  clear ha a; intro a w5 b6 ha hg hb6 hge6 hlt6
  have hz6 : w0.heap.size ≤ b6 := Nat.le_trans hB.size hge6
  have hq4_6 : b4 < b6 := Nat.lt_of_lt_of_le (lt_of_block hb4) hge6
  replace hB := keepB0 hg hB
  replace hb4 := keepO0 hg hb4
  clear hg hge6 hlt6
  refine hK2 _ _ ?_; clear hK2 K1
  refine wp_seq_k fun K7 hK8 => ?_
  refine region ?_
  refine sv ha (r_loadR ha rfl Tryd.isAgg84 Tryd.sizeOf84 (C := (l).map e64) (by rw [List.length_map, hl]) (cells_all hb4)) rfl rfl rfl ?_; clear ha a; intro a ha
  refine salloc ha zero_84K1 rfl ?_
  clear ha a; intro a w9 b10 ha hg hb10 hge10 hlt10
  have hz10 : w0.heap.size ≤ b10 := Nat.le_trans hB.size hge10
  have hq4_10 : b4 < b10 := Nat.lt_of_lt_of_le (lt_of_block hb4) hge10
  have hq6_10 : b6 < b10 := Nat.lt_of_lt_of_le (lt_of_block hb6) hge10
  replace hB := keepB0 hg hB
  replace hb4 := keepO0 hg hb4
  replace hb6 := keepO0 hg hb6
  clear hg hge10 hlt10
  refine sstoreW ha rfl rfl (one_e64 _) Tryd.sizeOf84 (by rw [List.length_map, hl]) hb10 (by rw [List.length_map, List.length_replicate]) ?_
  clear ha a; intro a w11 ha hg hb10'
  clear hb10; have hb10 := hb10'; clear hb10'
  replace hB := keepB1 hg (by omega) hB
  replace hb4 := keepO1 hg (by omega) hb4
  replace hb6 := keepO1 hg (by omega) hb6
  clear hg
  refine hK8 _ _ ?_; clear hK8 K7
  refine wp_seq_k fun K12 hK13 => ?_
  refine wp_seq_k fun K14 hK15 => ?_
  refine region ?_
  refine sv ha (r_move ha rfl) rfl rfl rfl ?_; clear ha a; intro a ha
  refine hK15 _ _ ?_; clear hK15 K14
  refine wp_block ?_
  refine loopG (fun (k : Nat) a w => (k ≤ 25) ∧ Has 39 [(0, .agg ((l).map e64).toArray), (1, .pointer (some ⟨b4, 0, none⟩)), (2, .pointer (some ⟨b6, 0, none⟩)), (7, .agg ((l).map e64).toArray), (3, .pointer (some ⟨b10, 0, none⟩)), (8, en k)] a ∧ Below w0.heap.size w0 w ∧ w.heap[b4]? = some (.cells ((l).map e64).toArray 84 (0, 0)) ∧ w.heap[b6]? = some (.cells ((List.replicate 25 (0 : UInt64)).map e64).toArray 84 (0, 0)) ∧ w.heap[b10]? = some (.cells ((chiA l k).map e64).toArray 84 (0, 0))) (fun k => 25 - k) 0 ⟨(by omega), ha.to [0, 1, 2, 7, 3, 8] rfl, hB, hb4, hb6, hb10⟩ ?_
  clear ha a hB hb4 hb6 hb10
  intro k a w16 ⟨hkk, ha, hB, hb4, hb6, hb10⟩
  refine wp_seq_k fun K17 hK18 => ?_
  refine region ?_
  refine sv ha (r_lss ha ((k : Nat) : Int) 25 (decide (k < 25)) rfl rfl (decide_eq_decide.2 (by omega))) rfl rfl rfl ?_; clear ha a; intro a ha
  refine hK18 _ _ ?_; clear hK18 K17
  refine wp_seq_k fun K19 hK20 => ?_
  refine cond_if ha rfl (fun hc21 => ?_) (fun hc21 => ?_)
  · skip
    replace hc21 := of_decide_eq_true hc21
    refine wp_skip ?_
    refine hK20 _ _ ?_; clear hK20 K19
    refine wp_seq_k fun K22 hK23 => ?_
    refine wp_block ?_
    refine wp_seq_k fun K24 hK25 => ?_
    refine region ?_
    refine sv ha (r_move ha rfl) rfl rfl rfl ?_; clear ha a; intro a ha
    refine sv ha (r_assign ha rfl) rfl rfl rfl ?_; clear ha a; intro a ha
    refine hK25 _ _ ?_; clear hK25 K24
    refine wp_seq_k fun K26 hK27 => ?_
    refine region ?_
    refine sv ha (r_move ha rfl) rfl rfl rfl ?_; clear ha a; intro a ha
    refine sv ha (rn_rem ha k 5 rfl rfl (by omega)) rfl rfl rfl ?_; clear ha a; intro a ha
    refine sv ha (r_move ha rfl) rfl rfl rfl ?_; clear ha a; intro a ha
    refine sv ha (r_move ha rfl) rfl rfl rfl ?_; clear ha a; intro a ha
    refine sv ha (rn_rem ha k 5 rfl rfl (by omega)) rfl rfl rfl ?_; clear ha a; intro a ha
    refine sv ha (rn_sub ha k (k % 5) rfl rfl (by omega) (by omega)) rfl rfl rfl ?_; clear ha a; intro a ha
    refine sv ha (r_assign ha rfl) rfl rfl rfl ?_; clear ha a; intro a ha
    refine sv ha (r_assign ha rfl) rfl rfl rfl ?_; clear ha a; intro a ha
    refine hK27 _ _ ?_; clear hK27 K26
    refine regionD (S := fun w => Below w0.heap.size w0 w ∧ w.heap[b4]? = some (.cells ((l).map e64).toArray 84 (0, 0)) ∧ w.heap[b6]? = some (.cells ((List.replicate 25 (0 : UInt64)).map e64).toArray 84 (0, 0)) ∧ w.heap[b10]? = some (.cells ((chiA l k).map e64).toArray 84 (0, 0)) ∧ True) [20] [0, 1, 2, 3, 4, 5, 6, 7, 8, 9, 10, 11, 12, 13, 14, 15, 16, 17, 18, 19] [0, 1, 2, 3, 4, 5, 6, 7, 8, 9, 10, 11, 12, 13, 14, 15, 16, 17, 18, 19, 20] mixed (by kernel_rfl) (fun w hg => ⟨keepB0 hg hB, keepO0 hg hb4, keepO0 hg hb6, keepO0 hg hb10, trivial⟩) ?_
    intro w28 hg
    replace hB := keepB0 hg hB
    replace hb4 := keepO0 hg hb4
    replace hb6 := keepO0 hg hb6
    replace hb10 := keepO0 hg hb10
    clear hg
    refine cv ha rfl rfl (fun w _ => r_move ha rfl) rfl rfl rfl ?_; clear ha a; intro a ha
    refine cv ha rfl rfl (fun w _ => r_indexArr (i := k) ha k Tryd.runUnderlying84 Tryd.sizeOf83 rfl rfl (by omega) (by omega)) rfl rfl rfl ?_; clear ha a; intro a ha
    refine cv ha rfl rfl (fun w ⟨hB, hb4, hb6, hb10, _⟩ => r_load ha rfl Tryd.isAgg83 (cell_of hb10 (get_map e64 (chiA l k) 0 k (by rw [chiA_len, hl]; omega)))) rfl rfl rfl ?_; clear ha a; intro a ha
    refine cv ha rfl rfl (fun w _ => r_move ha rfl) rfl rfl rfl ?_; clear ha a; intro a ha
    refine cv ha rfl rfl (fun w _ => r_move ha rfl) rfl rfl rfl ?_; clear ha a; intro a ha
    refine cv ha rfl rfl (fun w _ => rn_add ha (k % 5) 2 rfl rfl (by omega)) rfl rfl rfl ?_; clear ha a; intro a ha
    refine cv ha rfl rfl (fun w _ => rn_rem ha ((k % 5) + 2) 5 rfl rfl (by omega)) rfl rfl rfl ?_; clear ha a; intro a ha
    refine cv ha rfl rfl (fun w _ => rn_add ha (k - (k % 5)) (((k % 5) + 2) % 5) rfl rfl (by omega)) rfl rfl rfl ?_; clear ha a; intro a ha
    refine cv ha rfl rfl (fun w _ => r_indexArr (i := (k - (k % 5)) + (((k % 5) + 2) % 5)) ha ((k - (k % 5)) + (((k % 5) + 2) % 5)) Tryd.runUnderlying84 Tryd.sizeOf83 rfl rfl (by omega) (by omega)) rfl rfl rfl ?_; clear ha a; intro a ha
    refine cv ha rfl rfl (fun w ⟨hB, hb4, hb6, hb10, _⟩ => r_load ha rfl Tryd.isAgg83 (cell_of hb4 (get_map e64 l 0 ((k - (k % 5)) + (((k % 5) + 2) % 5)) (by rw [hl]; omega)))) rfl rfl rfl ?_; clear ha a; intro a ha
    refine cv ha rfl rfl (fun w _ => r_move ha rfl) rfl rfl rfl ?_; clear ha a; intro a ha
    refine cv ha rfl rfl (fun w _ => r_move ha rfl) rfl rfl rfl ?_; clear ha a; intro a ha
    refine cv ha rfl rfl (fun w _ => rn_add ha (k % 5) 1 rfl rfl (by omega)) rfl rfl rfl ?_; clear ha a; intro a ha
    refine cv ha rfl rfl (fun w _ => rn_rem ha ((k % 5) + 1) 5 rfl rfl (by omega)) rfl rfl rfl ?_; clear ha a; intro a ha
    refine cv ha rfl rfl (fun w _ => rn_add ha (k - (k % 5)) (((k % 5) + 1) % 5) rfl rfl (by omega)) rfl rfl rfl ?_; clear ha a; intro a ha
    refine cv ha rfl rfl (fun w _ => r_indexArr (i := (k - (k % 5)) + (((k % 5) + 1) % 5)) ha ((k - (k % 5)) + (((k % 5) + 1) % 5)) Tryd.runUnderlying84 Tryd.sizeOf83 rfl rfl (by omega) (by omega)) rfl rfl rfl ?_; clear ha a; intro a ha
    refine cv ha rfl rfl (fun w ⟨hB, hb4, hb6, hb10, _⟩ => r_load ha rfl Tryd.isAgg83 (cell_of hb4 (get_map e64 l 0 ((k - (k % 5)) + (((k % 5) + 1) % 5)) (by rw [hl]; omega)))) rfl rfl rfl ?_; clear ha a; intro a ha
    refine cv ha rfl rfl (fun w _ => ru_andNot ha (l.getD ((k - (k % 5)) + (((k % 5) + 2) % 5)) 0) (l.getD ((k - (k % 5)) + (((k % 5) + 1) % 5)) 0) rfl rfl) rfl rfl rfl ?_; clear ha a; intro a ha
    refine cv ha rfl rfl (fun w _ => ru_xor ha ((chiA l k).getD k 0) ((l.getD ((k - (k % 5)) + (((k % 5) + 2) % 5)) 0) &&& ~~~(l.getD ((k - (k % 5)) + (((k % 5) + 1) % 5)) 0)) rfl rfl) rfl rfl rfl ?_; clear ha a; intro a ha
    refine cv ha rfl rfl (fun w _ => r_indexArr (i := k) ha k Tryd.runUnderlying84 Tryd.sizeOf83 rfl rfl (by omega) (by omega)) rfl rfl rfl ?_; clear ha a; intro a ha
    refine cstore ha rfl rfl (v := e64 (((chiA l k).getD k 0) ^^^ ((l.getD ((k - (k % 5)) + (((k % 5) + 2) % 5)) 0) &&& ~~~(l.getD ((k - (k % 5)) + (((k % 5) + 1) % 5)) 0)))) rfl rfl rfl rfl Tryd.sizeOf83 hb10 (by rw [List.length_map, chiA_len, hl]; omega) rfl ?_
    clear ha a; intro a w29 ha hg hb10'
    rw [set_map] at hb10'
    clear hb10; have hb10 := hb10'; clear hb10'
    replace hB := keepB1 hg (by omega) hB
    replace hb4 := keepO1 hg (by omega) hb4
    replace hb6 := keepO1 hg (by omega) hb6
    clear hg
    refine cfin (hK23 _ _ ?_); clear hK23 K22
    refine region ?_
    refine sv ha (rn_add ha k 1 rfl rfl (by omega)) rfl rfl rfl ?_; clear ha a; intro a ha
    refine sv ha (r_move ha rfl) rfl rfl rfl ?_; clear ha a; intro a ha
    exact ⟨k + 1, by omega, (by omega), ha.to [0, 1, 2, 7, 3, 8] rfl, hB, hb4, hb6, hb10⟩
  · skip
    replace hc21 := of_decide_eq_false hc21
    refine wp_exit ?_
    obtain rfl : k = 25 := by omega
    refine hK13 _ _ ?_; clear hK20 K19 hK13 K12
    refine wp_seq_k fun K30 hK31 => ?_
    refine region ?_
    refine sv ha (r_loadR ha rfl Tryd.isAgg84 Tryd.sizeOf84 (C := (chiA l 25).map e64) (by rw [List.length_map, chiA_len, hl]) (cells_all hb10)) rfl rfl rfl ?_; clear ha a; intro a ha
    refine sstoreW ha rfl rfl (one_e64 _) Tryd.sizeOf84 (by rw [List.length_map, chiA_len, hl]) hb6 (by rw [List.length_map, List.length_replicate]) ?_
    clear ha a; intro a w32 ha hg hb6'
    clear hb6; have hb6 := hb6'; clear hb6'
    replace hB := keepB1 hg (by omega) hB
    replace hb4 := keepO1 hg (by omega) hb4
    replace hb10 := keepO1 hg (by omega) hb10
    clear hg
    refine hK31 _ _ ?_; clear hK31 K30
    refine wp_ret ?_
    repeat (first | (with_reducible refine t_ret ?_) | (with_reducible refine x_ret ?_))
    exact retC _ ha Tryd.results105 rfl hb6 Tryd.underlying84 rfl (by rw [List.length_map, chiA_len, hl]; kernel_rfl) ⟨rfl, hB⟩

theorem c_iota (l : List UInt64) (k : Nat) (w0 : World) (hl : l.length = 25) (hk : k < 24) (hG : Glob w0) :
    Calls Tryd.prog 104 #[.agg ((l).map e64).toArray, en k] w0 fun e w' => e = .returned (.agg ((iota l k).map e64).toArray) ∧ Below w0.heap.size w0 w' := by
  refine enter (args := [_, _]) Tryd.func104 rfl Tryd.ntmps104 rfl ?_
  intro a ha
  have hB := Below.refl w0.heap.size w0
  refine wp_seq_k fun K1 hK2 => ?_
  refine region ?_
  refine sbox ha rfl rfl ?_
  clear ha a; intro a w3 b4 ha hg hb4 hge4 hlt4
  have hz4 : w0.heap.size ≤ b4 := Nat.le_trans hB.size hge4
  replace hB := keepB0 hg hB
  clear hg hge4 hlt4
  refine salloc ha zero_84K1 rfl ?_
  clear ha a; intro a w5 b6 ha hg hb6 hge6 hlt6
  have hz6 : w0.heap.size ≤ b6 := Nat.le_trans hB.size hge6
  have hq4_6 : b4 < b6 := Nat.lt_of_lt_of_le (lt_of_block hb4) hge6
  replace hB := keepB0 hg hB
  replace hb4 := keepO0 hg hb4
  clear hg hge6 hlt6
  refine hK2 _ _ ?_; clear hK2 K1
  refine wp_seq_k fun K7 hK8 => ?_
  refine wp_seq_k fun K9 hK10 => ?_
  refine region ?_
  refine sv ha (r_move ha rfl) rfl rfl rfl ?_; clear ha a; intro a ha
  refine sv ha (r_geq ha ((k : Nat) : Int) 0 true rfl rfl (decide_eq_true (by omega))) rfl rfl rfl ?_; clear ha a; intro a ha
  refine sv ha (r_move ha rfl) rfl rfl rfl ?_; clear ha a; intro a ha
  refine svg ha (r_move ha rfl) rfl rfl rfl rfl rfl ?_; clear ha a; intro a ha
  refine svg ha (r_lss ha ((k : Nat) : Int) 24 true rfl rfl (decide_eq_true (by omega))) rfl rfl rfl rfl rfl ?_; clear ha a; intro a ha
  refine sv ha (r_pick ha true rfl rfl) rfl rfl rfl ?_; clear ha a; intro a ha
  refine hK10 _ _ ?_; clear hK10 K9
  refine cond_t ha rfl ?_
  refine regionD (S := fun w => Below w0.heap.size w0 w ∧ w.heap[b4]? = some (.cells ((l).map e64).toArray 84 (0, 0)) ∧ w.heap[b6]? = some (.cells ((List.replicate 25 (0 : UInt64)).map e64).toArray 84 (0, 0)) ∧ True) [7] [0, 1, 2, 3, 4, 5, 6] [0, 1, 2, 3, 4, 5, 6, 7] mixed (by kernel_rfl) (fun w hg => ⟨keepB0 hg hB, keepO0 hg hb4, keepO0 hg hb6, trivial⟩) ?_
  intro w11 hg
  replace hB := keepB0 hg hB
  replace hb4 := keepO0 hg hb4
  replace hb6 := keepO0 hg hb6
  clear hg
  refine cv ha rfl rfl (fun w _ => r_indexArr (i := 0) ha 0 Tryd.runUnderlying84 Tryd.sizeOf83 rfl rfl (by omega) (by omega)) rfl rfl rfl ?_; clear ha a; intro a ha
  refine cv ha rfl rfl (fun w ⟨hB, hb4, hb6, _⟩ => r_load ha rfl Tryd.isAgg83 (cell_of hb4 (get_map e64 l 0 0 (by rw [hl]; omega)))) rfl rfl rfl ?_; clear ha a; intro a ha
  refine cv ha rfl rfl (fun w _ => r_move ha rfl) rfl rfl rfl ?_; clear ha a; intro a ha
  refine cv ha rfl rfl (fun w _ => r_indexArr (i := k) ha k Tryd.runUnderlying101 Tryd.sizeOf83 rfl rfl (by omega) (by omega)) rfl rfl rfl ?_; clear ha a; intro a ha
  refine cv ha rfl rfl (fun w ⟨hB, hb4, hb6, _⟩ => r_load ha rfl Tryd.isAgg83 (cell_glob (glob_1 hG hB) (get_map e64 consts 0 k (show _ < 24 by omega)))) rfl rfl rfl ?_; clear ha a; intro a ha
  refine cv ha rfl rfl (fun w _ => ru_xor ha (l.getD 0 0) (consts.getD k 0) rfl rfl) rfl rfl rfl ?_; clear ha a; intro a ha
  refine cv ha rfl rfl (fun w _ => r_indexArr (i := 0) ha 0 Tryd.runUnderlying84 Tryd.sizeOf83 rfl rfl (by omega) (by omega)) rfl rfl rfl ?_; clear ha a; intro a ha
  refine cstore ha rfl rfl (v := e64 ((l.getD 0 0) ^^^ (consts.getD k 0))) rfl rfl rfl rfl Tryd.sizeOf83 hb4 (by rw [List.length_map, hl]; omega) rfl ?_
  clear ha a; intro a w12 ha hg hb4'
  rw [set_map] at hb4'
  clear hb4; have hb4 := hb4'; clear hb4'
  replace hB := keepB1 hg (by omega) hB
  replace hb6 := keepO1 hg (by omega) hb6
  clear hg
  refine cfin (hK8 _ _ ?_); clear hK8 K7
  refine wp_seq_k fun K13 hK14 => ?_
  refine region ?_
  refine sv ha (r_loadR ha rfl Tryd.isAgg84 Tryd.sizeOf84 (C := (l.set 0 ((l.getD 0 0) ^^^ (consts.getD k 0))).map e64) (by rw [List.length_map, List.length_set, hl]) (cells_all hb4)) rfl rfl rfl ?_; clear ha a; intro a ha
  refine sstoreW ha rfl rfl (one_e64 _) Tryd.sizeOf84 (by rw [List.length_map, List.length_set, hl]) hb6 (by rw [List.length_map, List.length_replicate]) ?_
  clear ha a; intro a w15 ha hg hb6'
  clear hb6; have hb6 := hb6'; clear hb6'
  replace hB := keepB1 hg (by omega) hB
  replace hb4 := keepO1 hg (by omega) hb4
  clear hg
  refine hK14 _ _ ?_; clear hK14 K13
  refine wp_ret ?_
  repeat (first | (with_reducible refine t_ret ?_) | (with_reducible refine x_ret ?_))
  exact retC _ ha Tryd.results104 rfl hb6 Tryd.underlying84 rfl (by rw [List.length_map, List.length_set, hl]; kernel_rfl) ⟨rfl, hB⟩

theorem c_iotaN (l : List UInt64) (k : Int) (w0 : World) (hl : l.length = 25) (hk : k < 0 ∨ 24 ≤ k) (hG : Glob w0) :
    Calls Tryd.prog 104 #[.agg ((l).map e64).toArray, ei k] w0 fun e w' => e = .returned (.agg ((l).map e64).toArray) ∧ Below w0.heap.size w0 w' := by
  refine enter (args := [_, _]) Tryd.func104 rfl Tryd.ntmps104 rfl ?_
  intro a ha
  have hB := Below.refl w0.heap.size w0
  refine wp_seq_k fun K1 hK2 => ?_
  refine region ?_
  refine sbox ha rfl rfl ?_
  clear ha a; intro a w3 b4 ha hg hb4 hge4 hlt4
  have hz4 : w0.heap.size ≤ b4 := Nat.le_trans hB.size hge4
  replace hB := keepB0 hg hB
  clear hg hge4 hlt4
  refine salloc ha zero_84K1 rfl ?_
  clear ha a; intro a w5 b6 ha hg hb6 hge6 hlt6
  have hz6 : w0.heap.size ≤ b6 := Nat.le_trans hB.size hge6
  have hq4_6 : b4 < b6 := Nat.lt_of_lt_of_le (lt_of_block hb4) hge6
  replace hB := keepB0 hg hB
  replace hb4 := keepO0 hg hb4
  clear hg hge6 hlt6
  refine hK2 _ _ ?_; clear hK2 K1
  refine wp_seq_k fun K7 hK8 => ?_
  refine wp_seq_k fun K9 hK10 => ?_
  refine region ?_
  refine sv ha (r_move ha rfl) rfl rfl rfl ?_; clear ha a; intro a ha
  refine sv ha (r_geq ha k 0 (decide (k ≥ 0)) rfl rfl (decide_eq_decide.2 (by omega))) rfl rfl rfl ?_; clear ha a; intro a ha
  refine sv ha (r_move ha rfl) rfl rfl rfl ?_; clear ha a; intro a ha
  cases hq11 : (decide (k ≥ 0))
  all_goals rw [hq11] at ha
  case false =>
    replace hq11 := of_decide_eq_false hq11
    refine sno ha rfl rfl rfl rfl rfl rfl ?_; clear ha a; intro a ha
    refine sno ha rfl rfl rfl rfl rfl rfl ?_; clear ha a; intro a ha
    refine sv ha (r_pick ha false rfl rfl) rfl rfl rfl ?_; clear ha a; intro a ha
    refine hK10 _ _ ?_; clear hK10 K9
    refine cond_f ha rfl ?_
    refine wp_skip ?_
    refine hK8 _ _ ?_; clear hK8 K7
    refine wp_seq_k fun K12 hK13 => ?_
    refine region ?_
    refine sv ha (r_loadR ha rfl Tryd.isAgg84 Tryd.sizeOf84 (C := (l).map e64) (by rw [List.length_map, hl]) (cells_all hb4)) rfl rfl rfl ?_; clear ha a; intro a ha
    refine sstoreW ha rfl rfl (one_e64 _) Tryd.sizeOf84 (by rw [List.length_map, hl]) hb6 (by rw [List.length_map, List.length_replicate]) ?_
    clear ha a; intro a w14 ha hg hb6'
    clear hb6; have hb6 := hb6'; clear hb6'
    replace hB := keepB1 hg (by omega) hB
    replace hb4 := keepO1 hg (by omega) hb4
    clear hg
    refine hK13 _ _ ?_; clear hK13 K12
    refine wp_ret ?_
    repeat (first | (with_reducible refine t_ret ?_) | (with_reducible refine x_ret ?_))
    exact retC _ ha Tryd.results104 rfl hb6 Tryd.underlying84 rfl (by rw [List.length_map, hl]; kernel_rfl) ⟨rfl, hB⟩
  case true =>
    replace hq11 := of_decide_eq_true hq11
    refine svg ha (r_move ha rfl) rfl rfl rfl rfl rfl ?_; clear ha a; intro a ha
    refine svg ha (r_lss ha k 24 false rfl rfl (decide_eq_false (by omega))) rfl rfl rfl rfl rfl ?_; clear ha a; intro a ha
    refine sv ha (r_pick ha true rfl rfl) rfl rfl rfl ?_; clear ha a; intro a ha
    refine hK10 _ _ ?_; clear hK10 K9
    refine cond_f ha rfl ?_
    refine wp_skip ?_
    refine hK8 _ _ ?_; clear hK8 K7
    refine wp_seq_k fun K15 hK16 => ?_
    refine region ?_
    refine sv ha (r_loadR ha rfl Tryd.isAgg84 Tryd.sizeOf84 (C := (l).map e64) (by rw [List.length_map, hl]) (cells_all hb4)) rfl rfl rfl ?_; clear ha a; intro a ha
    refine sstoreW ha rfl rfl (one_e64 _) Tryd.sizeOf84 (by rw [List.length_map, hl]) hb6 (by rw [List.length_map, List.length_replicate]) ?_
    clear ha a; intro a w17 ha hg hb6'
    clear hb6; have hb6 := hb6'; clear hb6'
    replace hB := keepB1 hg (by omega) hB
    replace hb4 := keepO1 hg (by omega) hb4
    clear hg
    refine hK16 _ _ ?_; clear hK16 K15
    refine wp_ret ?_
    repeat (first | (with_reducible refine t_ret ?_) | (with_reducible refine x_ret ?_))
    exact retC _ ha Tryd.results104 rfl hb6 Tryd.underlying84 rfl (by rw [List.length_map, hl]; kernel_rfl) ⟨rfl, hB⟩

theorem c_round (l : List UInt64) (k : Nat) (w0 : World) (hl : l.length = 25) (hk : k < 24) (hG : Glob w0) :
    Calls Tryd.prog 91 #[.agg ((l).map e64).toArray, en k] w0 fun e w' => e = .returned (.agg ((kround l k).map e64).toArray) ∧ Below w0.heap.size w0 w' := by
  refine enter (args := [_, _]) Tryd.func91 rfl Tryd.ntmps91 rfl ?_
  intro a ha
  have hB := Below.refl w0.heap.size w0
  refine wp_seq_k fun K1 hK2 => ?_
  refine region ?_
  refine sbox ha rfl rfl ?_
  clear ha a; intro a w3 b4 ha hg hb4 hge4 hlt4
  have hz4 : w0.heap.size ≤ b4 := Nat.le_trans hB.size hge4
  replace hB := keepB0 hg hB
  clear hg hge4 hlt4
  refine salloc ha zero_84K1 rfl ?_
  clear ha a; intro a w5 b6 ha hg hb6 hge6 hlt6
  have hz6 : w0.heap.size ≤ b6 := Nat.le_trans hB.size hge6
  have hq4_6 : b4 < b6 := Nat.lt_of_lt_of_le (lt_of_block hb4) hge6
  replace hB := keepB0 hg hB
  replace hb4 := keepO0 hg hb4
  clear hg hge6 hlt6
  refine hK2 _ _ ?_; clear hK2 K1
  refine wp_seq_k fun K7 hK8 => ?_
  refine wp_seq_k fun K9 hK10 => ?_
  refine region ?_
  refine sv ha (r_build0 zero_84K1 Tryd.runUnderlying84 Tryd.sizeOf83) rfl rfl rfl ?_; clear ha a; intro a ha
  refine sv ha (r_move ha rfl) rfl rfl rfl ?_; clear ha a; intro a ha
  refine sc ha (r_call ha [.agg (((List.replicate 25 (0 : UInt64))).map e64).toArray, en k] rfl Tryd.call104) rfl rfl rfl (c_iota (List.replicate 25 (0 : UInt64)) k _ (by rw [List.length_replicate]) (by omega) (glob_keep hG hB)) ?_
  clear ha a
  rintro e w11 ⟨rfl, hBc⟩
  have hg := grown_call hBc; clear hBc
  replace hB := keepB0 hg hB
  replace hb4 := keepO0 hg hb4
  replace hb6 := keepO0 hg hb6
  clear hg
  refine ⟨_, rfl, ?_⟩; intro a ha
  refine sv ha (r_build0 zero_84K1 Tryd.runUnderlying84 Tryd.sizeOf83) rfl rfl rfl ?_; clear ha a; intro a ha
  refine sv ha (r_eqA (f := (fun z : UInt64 => (z.toNat : Int))) (inj64) (iota (List.replicate 25 (0 : UInt64)) k) (List.replicate 25 (0 : UInt64)) ha rfl rfl (by rw [iota_len, List.length_replicate]) (by rw [List.length_replicate]) Tryd.eqGuardType84 Tryd.runUnderlying84 Tryd.sizeOf83 Tryd.underlying83 Tryd.isAgg83 false (decide_eq_false (iota_zero k hk))) rfl rfl rfl ?_; clear ha a; intro a ha
  refine hK10 _ _ ?_; clear hK10 K9
  refine cond_f ha rfl ?_
  refine wp_skip ?_
  refine hK8 _ _ ?_; clear hK8 K7
  refine wp_seq_k fun K12 hK13 => ?_
  refine region ?_
  refine sv ha (r_loadR ha rfl Tryd.isAgg84 Tryd.sizeOf84 (C := (l).map e64) (by rw [List.length_map, hl]) (cells_all hb4)) rfl rfl rfl ?_; clear ha a; intro a ha
  refine sc ha (r_call ha [.agg ((l).map e64).toArray] rfl Tryd.call108) rfl rfl rfl (c_theta l _ (by rw [hl])) ?_
  clear ha a
  rintro e w14 ⟨rfl, hBc⟩
  have hg := grown_call hBc; clear hBc
  replace hB := keepB0 hg hB
  replace hb4 := keepO0 hg hb4
  replace hb6 := keepO0 hg hb6
  clear hg
  refine ⟨_, rfl, ?_⟩; intro a ha
  refine sc ha (r_call ha [.agg (((theta l)).map e64).toArray] rfl Tryd.call107) rfl rfl rfl (c_rho (theta l) _ (by rw [theta_len, hl]) (glob_keep hG hB)) ?_
  clear ha a
  rintro e w15 ⟨rfl, hBc⟩
  have hg := grown_call hBc; clear hBc
  replace hB := keepB0 hg hB
  replace hb4 := keepO0 hg hb4
  replace hb6 := keepO0 hg hb6
  clear hg
  refine ⟨_, rfl, ?_⟩; intro a ha
  refine sc ha (r_call ha [.agg (((rho (theta l))).map e64).toArray] rfl Tryd.call106) rfl rfl rfl (c_pi (rho (theta l)) _ (by rw [rho_len, theta_len, hl])) ?_
  clear ha a
  rintro e w16 ⟨rfl, hBc⟩
  have hg := grown_call hBc; clear hBc
  replace hB := keepB0 hg hB
  replace hb4 := keepO0 hg hb4
  replace hb6 := keepO0 hg hb6
  clear hg
  refine ⟨_, rfl, ?_⟩; intro a ha
  refine sc ha (r_call ha [.agg (((pi (rho (theta l)))).map e64).toArray] rfl Tryd.call105) rfl rfl rfl (c_chi (pi (rho (theta l))) _ (by rw [pi_len])) ?_
  clear ha a
  rintro e w17 ⟨rfl, hBc⟩
  have hg := grown_call hBc; clear hBc
  replace hB := keepB0 hg hB
  replace hb4 := keepO0 hg hb4
  replace hb6 := keepO0 hg hb6
  clear hg
  refine ⟨_, rfl, ?_⟩; intro a ha
  refine sv ha (r_move ha rfl) rfl rfl rfl ?_; clear ha a; intro a ha
  refine sc ha (r_call ha [.agg (((chi (pi (rho (theta l))))).map e64).toArray, en k] rfl Tryd.call104) rfl rfl rfl (c_iota (chi (pi (rho (theta l)))) k _ (by rw [chi_len, pi_len]) (by omega) (glob_keep hG hB)) ?_
  clear ha a
  rintro e w18 ⟨rfl, hBc⟩
  have hg := grown_call hBc; clear hBc
  replace hB := keepB0 hg hB
  replace hb4 := keepO0 hg hb4
  replace hb6 := keepO0 hg hb6
  clear hg
  refine ⟨_, rfl, ?_⟩; intro a ha
  refine sstoreW ha rfl rfl (one_e64 _) Tryd.sizeOf84 (by rw [List.length_map, iota_len, chi_len, pi_len]) hb6 (by rw [List.length_map, List.length_replicate]) ?_
  clear ha a; intro a w19 ha hg hb6'
  clear hb6; have hb6 := hb6'; clear hb6'
  replace hB := keepB1 hg (by omega) hB
  replace hb4 := keepO1 hg (by omega) hb4
  clear hg
  refine hK13 _ _ ?_; clear hK13 K12
  refine wp_ret ?_
  repeat (first | (with_reducible refine t_ret ?_) | (with_reducible refine x_ret ?_))
  exact retC _ ha Tryd.results91 rfl hb6 Tryd.underlying84 rfl (by rw [List.length_map, iota_len, chi_len, pi_len]; kernel_rfl) ⟨rfl, hB⟩

theorem c_roundN (l : List UInt64) (k : Int) (w0 : World) (hl : l.length = 25) (hk : k < 0 ∨ 24 ≤ k) (hG : Glob w0) :
    Calls Tryd.prog 91 #[.agg ((l).map e64).toArray, ei k] w0 fun e w' => e = .returned (.agg ((l).map e64).toArray) ∧ Below w0.heap.size w0 w' := by
  refine enter (args := [_, _]) Tryd.func91 rfl Tryd.ntmps91 rfl ?_
  intro a ha
  have hB := Below.refl w0.heap.size w0
  refine wp_seq_k fun K1 hK2 => ?_
  refine region ?_
  refine sbox ha rfl rfl ?_
  clear ha a; intro a w3 b4 ha hg hb4 hge4 hlt4
  have hz4 : w0.heap.size ≤ b4 := Nat.le_trans hB.size hge4
  replace hB := keepB0 hg hB
  clear hg hge4 hlt4
  refine salloc ha zero_84K1 rfl ?_
  clear ha a; intro a w5 b6 ha hg hb6 hge6 hlt6
  have hz6 : w0.heap.size ≤ b6 := Nat.le_trans hB.size hge6
  have hq4_6 : b4 < b6 := Nat.lt_of_lt_of_le (lt_of_block hb4) hge6
  replace hB := keepB0 hg hB
  replace hb4 := keepO0 hg hb4
  clear hg hge6 hlt6
  refine hK2 _ _ ?_; clear hK2 K1
  refine wp_seq_k fun K7 hK8 => ?_
  refine wp_seq_k fun K9 hK10 => ?_
  refine region ?_
  refine sv ha (r_build0 zero_84K1 Tryd.runUnderlying84 Tryd.sizeOf83) rfl rfl rfl ?_; clear ha a; intro a ha
  refine sv ha (r_move ha rfl) rfl rfl rfl ?_; clear ha a; intro a ha
  refine sc ha (r_call ha [.agg (((List.replicate 25 (0 : UInt64))).map e64).toArray, ei k] rfl Tryd.call104) rfl rfl rfl (c_iotaN (List.replicate 25 (0 : UInt64)) k _ (by rw [List.length_replicate]) (by omega) (glob_keep hG hB)) ?_
  clear ha a
  rintro e w11 ⟨rfl, hBc⟩
  have hg := grown_call hBc; clear hBc
  replace hB := keepB0 hg hB
  replace hb4 := keepO0 hg hb4
  replace hb6 := keepO0 hg hb6
  clear hg
  refine ⟨_, rfl, ?_⟩; intro a ha
  refine sv ha (r_build0 zero_84K1 Tryd.runUnderlying84 Tryd.sizeOf83) rfl rfl rfl ?_; clear ha a; intro a ha
  refine sv ha (r_eqA (f := (fun z : UInt64 => (z.toNat : Int))) (inj64) (List.replicate 25 (0 : UInt64)) (List.replicate 25 (0 : UInt64)) ha rfl rfl (by rw [List.length_replicate]) (by rw [List.length_replicate]) Tryd.eqGuardType84 Tryd.runUnderlying84 Tryd.sizeOf83 Tryd.underlying83 Tryd.isAgg83 true (decide_eq_true rfl)) rfl rfl rfl ?_; clear ha a; intro a ha
  refine hK10 _ _ ?_; clear hK10 K9
  refine cond_t ha rfl ?_
  refine wp_seq_k fun K12 hK13 => ?_
  refine region ?_
  refine sv ha (r_loadR ha rfl Tryd.isAgg84 Tryd.sizeOf84 (C := (l).map e64) (by rw [List.length_map, hl]) (cells_all hb4)) rfl rfl rfl ?_; clear ha a; intro a ha
  refine sstoreW ha rfl rfl (one_e64 _) Tryd.sizeOf84 (by rw [List.length_map, hl]) hb6 (by rw [List.length_map, List.length_replicate]) ?_
  clear ha a; intro a w14 ha hg hb6'
  clear hb6; have hb6 := hb6'; clear hb6'
  replace hB := keepB1 hg (by omega) hB
  replace hb4 := keepO1 hg (by omega) hb4
  clear hg
  refine hK13 _ _ ?_; clear hK13 K12
  refine wp_ret ?_
  repeat (first | (with_reducible refine t_ret ?_) | (with_reducible refine x_ret ?_))
  exact retC _ ha Tryd.results91 rfl hb6 Tryd.underlying84 rfl (by rw [List.length_map, hl]; kernel_rfl) ⟨rfl, hB⟩

theorem c_kf (l : List UInt64) (w0 : World) (hl : l.length = 25) (hG : Glob w0) :
    Calls Tryd.prog 65 #[.agg ((l).map e64).toArray] w0 fun e w' => e = .returned (.agg ((kf l).map e64).toArray) ∧ Below w0.heap.size w0 w' := by
  refine enter (args := [_]) Tryd.func65 rfl Tryd.ntmps65 rfl ?_
  intro a ha
  have hB := Below.refl w0.heap.size w0
  refine wp_seq_k fun K1 hK2 => ?_
  refine region ?_
  refine sbox ha rfl rfl ?_
  clear ha a; intro a w3 b4 ha hg hb4 hge4 hlt4
  have hz4 : w0.heap.size ≤ b4 := Nat.le_trans hB.size hge4
  replace hB := keepB0 hg hB
  clear hg hge4 hlt4
  refine salloc ha zero_84K1 rfl ?_
  clear ha a; intro a w5 b6 ha hg hb6 hge6 hlt6
  have hz6 : w0.heap.size ≤ b6 := Nat.le_trans hB.size hge6
  have hq4_6 : b4 < b6 := Nat.lt_of_lt_of_le (lt_of_block hb4) hge6
  replace hB := keepB0 hg hB
  replace hb4 := keepO0 hg hb4
  clear hg hge6 hlt6
  refine hK2 _ _ ?_; clear hK2 K1
  refine wp_seq_k fun K7 hK8 => ?_
  refine wp_seq_k fun K9 hK10 => ?_
  refine region ?_
  refine sv ha (r_move ha rfl) rfl rfl rfl ?_; clear ha a; intro a ha
  refine hK10 _ _ ?_; clear hK10 K9
  refine wp_block ?_
  refine loopG (fun (k : Nat) a w => (k ≤ 24) ∧ Has 12 [(0, .agg ((l).map e64).toArray), (1, .pointer (some ⟨b4, 0, none⟩)), (2, .pointer (some ⟨b6, 0, none⟩)), (4, en k)] a ∧ Below w0.heap.size w0 w ∧ w.heap[b4]? = some (.cells ((kfA l k).map e64).toArray 84 (0, 0)) ∧ w.heap[b6]? = some (.cells ((List.replicate 25 (0 : UInt64)).map e64).toArray 84 (0, 0))) (fun k => 24 - k) 0 ⟨(by omega), ha.to [0, 1, 2, 4] rfl, hB, hb4, hb6⟩ ?_
  clear ha a hB hb4 hb6
  intro k a w11 ⟨hkk, ha, hB, hb4, hb6⟩
  refine wp_seq_k fun K12 hK13 => ?_
  refine region ?_
  refine sv ha (r_lss ha ((k : Nat) : Int) 24 (decide (k < 24)) rfl rfl (decide_eq_decide.2 (by omega))) rfl rfl rfl ?_; clear ha a; intro a ha
  refine hK13 _ _ ?_; clear hK13 K12
  refine wp_seq_k fun K14 hK15 => ?_
  refine cond_if ha rfl (fun hc16 => ?_) (fun hc16 => ?_)
  · skip
    replace hc16 := of_decide_eq_true hc16
    refine wp_skip ?_
    refine hK15 _ _ ?_; clear hK15 K14
    refine wp_seq_k fun K17 hK18 => ?_
    refine wp_block ?_
    refine wp_seq_k fun K19 hK20 => ?_
    refine region ?_
    refine sv ha (r_move ha rfl) rfl rfl rfl ?_; clear ha a; intro a ha
    refine sv ha (r_assign ha rfl) rfl rfl rfl ?_; clear ha a; intro a ha
    refine hK20 _ _ ?_; clear hK20 K19
    refine region ?_
    refine sv ha (r_loadR ha rfl Tryd.isAgg84 Tryd.sizeOf84 (C := (kfA l k).map e64) (by rw [List.length_map, kfA_len l hl]) (cells_all hb4)) rfl rfl rfl ?_; clear ha a; intro a ha
    refine sv ha (r_move ha rfl) rfl rfl rfl ?_; clear ha a; intro a ha
    refine sc ha (r_call ha [.agg (((kfA l k)).map e64).toArray, en k] rfl Tryd.call91) rfl rfl rfl (c_round (kfA l k) k _ (by rw [kfA_len l hl]) (by omega) (glob_keep hG hB)) ?_
    clear ha a
    rintro e w21 ⟨rfl, hBc⟩
    have hg := grown_call hBc; clear hBc
    replace hB := keepB0 hg hB
    replace hb4 := keepO0 hg hb4
    replace hb6 := keepO0 hg hb6
    clear hg
    refine ⟨_, rfl, ?_⟩; intro a ha
    refine sstoreW ha rfl rfl (one_e64 _) Tryd.sizeOf84 (by rw [List.length_map, kround_len]) hb4 (by rw [List.length_map, kfA_len l hl]) ?_
    clear ha a; intro a w22 ha hg hb4'
    clear hb4; have hb4 := hb4'; clear hb4'
    replace hB := keepB1 hg (by omega) hB
    replace hb6 := keepO1 hg (by omega) hb6
    clear hg
    refine hK18 _ _ ?_; clear hK18 K17
    refine region ?_
    refine sv ha (rn_add ha k 1 rfl rfl (by omega)) rfl rfl rfl ?_; clear ha a; intro a ha
    refine sv ha (r_move ha rfl) rfl rfl rfl ?_; clear ha a; intro a ha
    exact ⟨k + 1, by omega, (by omega), ha.to [0, 1, 2, 4] rfl, hB, hb4, hb6⟩
  · skip
    replace hc16 := of_decide_eq_false hc16
    refine wp_exit ?_
    obtain rfl : k = 24 := by omega
    refine hK8 _ _ ?_; clear hK15 K14 hK8 K7
    refine wp_seq_k fun K23 hK24 => ?_
    refine region ?_
    refine sv ha (r_loadR ha rfl Tryd.isAgg84 Tryd.sizeOf84 (C := (kfA l 24).map e64) (by rw [List.length_map, kfA_len l hl]) (cells_all hb4)) rfl rfl rfl ?_; clear ha a; intro a ha
    refine sstoreW ha rfl rfl (one_e64 _) Tryd.sizeOf84 (by rw [List.length_map, kfA_len l hl]) hb6 (by rw [List.length_map, List.length_replicate]) ?_
    clear ha a; intro a w25 ha hg hb6'
    clear hb6; have hb6 := hb6'; clear hb6'
    replace hB := keepB1 hg (by omega) hB
    replace hb4 := keepO1 hg (by omega) hb4
    clear hg
    refine hK24 _ _ ?_; clear hK24 K23
    refine wp_ret ?_
    repeat (first | (with_reducible refine t_ret ?_) | (with_reducible refine x_ret ?_))
    exact retC _ ha Tryd.results65 rfl hb6 Tryd.underlying84 rfl (by rw [List.length_map, kfA_len l hl]; kernel_rfl) ⟨rfl, hB⟩
end Go.Proofs.YtaignhikdfpbbaaDoor
