/- WALKS written by gen.py (own program) out of specs. -/
import Derived.Test.YtdiddkcoihpnhaaDoorZ3
import Derived.Test.YtdiddkcoihpnhaaDoorNv
namespace Go.Proofs.YtdiddkcoihpnhaaDoor
open Go.RowKit Go.Rx
set_option maxRecDepth 100000
set_option maxHeartbeats 4000000
set_option linter.unusedVariables false

theorem zero_33Z4 : ∀ w, (zeroValue 33).run Tryd.prog w = .ok (.agg ((List.replicate 256 (0 : Int)).map ei).toArray) w := fun _ => by kernel_rfl
theorem c_rclean (p : List Int) (w0 : World) (hp : p.length = 256) :
    Calls Tryd.prog 41 #[.agg ((p).map ei).toArray] w0 fun e w' => e = .returned (.agg ((cl p).map ei).toArray) ∧ Below w0.heap.size w0 w' := by
  refine enter (args := [_]) Tryd.func41 rfl Tryd.ntmps41 rfl ?_
  intro a ha
  have hB := Below.refl w0.heap.size w0
  refine wp_seq_k fun K1 hK2 => ?_
  refine region ?_
  refine sbox ha rfl rfl ?_
  clear ha a; intro a w3 b4 ha hg hb4 hge4 hlt4
  have hz4 : w0.heap.size ≤ b4 := Nat.le_trans hB.size hge4
  replace hB := keepB0 hg hB
  clear hg hge4 hlt4
  refine salloc ha zero_33Z4 rfl ?_
  clear ha a; intro a w5 b6 ha hg hb6 hge6 hlt6
  have hz6 : w0.heap.size ≤ b6 := Nat.le_trans hB.size hge6
  have hq4_6 : b4 < b6 := Nat.lt_of_lt_of_le (lt_of_block hb4) hge6
  replace hB := keepB0 hg hB
  replace hb4 := keepO0 hg hb4
  clear hg hge6 hlt6
  refine hK2 _ _ ?_; clear hK2 K1
  refine wp_seq_k fun K7 hK8 => ?_
  refine wp_seq_k fun K9 hK10 => ?_
  refine region ?_
  refine sv ha (r_assign ha rfl) rfl rfl rfl ?_; clear ha a; intro a ha
  refine hK10 _ _ ?_; clear hK10 K9
  refine wp_block ?_
  refine loopG (fun (k : Nat) a w => (k ≤ 256) ∧ Has 15 [(0, .agg ((p).map ei).toArray), (1, .pointer (some ⟨b4, 0, none⟩)), (2, .pointer (some ⟨b6, 0, none⟩)), (3, en k)] a ∧ Below w0.heap.size w0 w ∧ w.heap[b4]? = some (.cells ((eaA (fun x _ => zmod x) p p k).map ei).toArray 33 (0, 0)) ∧ w.heap[b6]? = some (.cells ((List.replicate 256 (0 : Int)).map ei).toArray 33 (0, 0))) (fun k => 256 - k) 0 ⟨(by omega), ha.to [0, 1, 2, 3] rfl, hB, hb4, hb6⟩ ?_
  clear ha a hB hb4 hb6
  intro k a w11 ⟨hkk, ha, hB, hb4, hb6⟩
  refine wp_seq_k fun K12 hK13 => ?_
  refine wp_seq_k fun K14 hK15 => ?_
  refine region ?_
  refine sv ha (r_move ha rfl) rfl rfl rfl ?_; clear ha a; intro a ha
  refine sv ha (r_lss ha ((k : Nat) : Int) 256 (decide (k < 256)) rfl rfl (decide_eq_decide.2 (by omega))) rfl rfl rfl ?_; clear ha a; intro a ha
  refine hK15 _ _ ?_; clear hK15 K14
  refine cond_if ha rfl (fun hc16 => ?_) (fun hc16 => ?_)
  · skip
    replace hc16 := of_decide_eq_true hc16
    refine wp_skip ?_
    refine hK13 _ _ ?_; clear hK13 K12
    refine wp_seq_k fun K17 hK18 => ?_
    refine wp_block ?_
    refine region ?_
    refine sv ha (r_move ha rfl) rfl rfl rfl ?_; clear ha a; intro a ha
    refine sv ha (r_move ha rfl) rfl rfl rfl ?_; clear ha a; intro a ha
    refine sv ha (r_indexArr (i := k) ha k Tryd.runUnderlying33 Tryd.sizeOf3 rfl rfl (by omega) (by omega)) rfl rfl rfl ?_; clear ha a; intro a ha
    refine sv ha (r_load ha rfl Tryd.isAgg3 (cell_of hb4 (get_map ei (eaA (fun x _ => zmod x) p p k) 0 k (by rw [eaA_len, hp]; omega)))) rfl rfl rfl ?_; clear ha a; intro a ha
    refine sc ha (r_call ha [ei ((eaA (fun x _ => zmod x) p p k).getD k 0)] rfl Tryd.call19) rfl rfl rfl (c_rmod ((eaA (fun x _ => zmod x) p p k).getD k 0) _ ) ?_
    clear ha a
    rintro e w19 ⟨rfl, hBc⟩
    have hg := grown_call hBc; clear hBc
    replace hB := keepB0 hg hB
    replace hb4 := keepO0 hg hb4
    replace hb6 := keepO0 hg hb6
    clear hg
    refine ⟨_, rfl, ?_⟩; intro a ha
    refine sv ha (r_indexArr (i := k) ha k Tryd.runUnderlying33 Tryd.sizeOf3 rfl rfl (by omega) (by omega)) rfl rfl rfl ?_; clear ha a; intro a ha
    refine sstore ha (v := ei ((zmod ((eaA (fun x _ => zmod x) p p k).getD k 0) : Nat) : Int)) rfl rfl rfl rfl Tryd.sizeOf3 hb4 (by rw [List.length_map, eaA_len, hp]; omega) ?_
    clear ha a; intro a w20 ha hg hb4'
    rw [set_map] at hb4'
    clear hb4; have hb4 := hb4'; clear hb4'
    replace hB := keepB1 hg (by omega) hB
    replace hb6 := keepO1 hg (by omega) hb6
    clear hg
    refine hK18 _ _ ?_; clear hK18 K17
    refine region ?_
    refine sv ha (r_move ha rfl) rfl rfl rfl ?_; clear ha a; intro a ha
    refine sv ha (rn_add ha k 1 rfl rfl (by omega)) rfl rfl rfl ?_; clear ha a; intro a ha
    refine sv ha (r_assign ha rfl) rfl rfl rfl ?_; clear ha a; intro a ha
    exact ⟨k + 1, by omega, (by omega), ha.to [0, 1, 2, 3] rfl, hB, hb4, hb6⟩
  · skip
    replace hc16 := of_decide_eq_false hc16
    refine wp_exit ?_
    obtain rfl : k = 256 := by omega
    refine hK8 _ _ ?_; clear hK13 K12 hK8 K7
    refine wp_seq_k fun K21 hK22 => ?_
    refine region ?_
    refine sv ha (r_loadR ha rfl Tryd.isAgg33 Tryd.sizeOf33 (C := (eaA (fun x _ => zmod x) p p 256).map ei) (by rw [List.length_map, eaA_len, hp]) (cells_all hb4)) rfl rfl rfl ?_; clear ha a; intro a ha
    refine sstoreW ha rfl rfl (one_ei _) Tryd.sizeOf33 (by rw [List.length_map, eaA_len, hp]) hb6 (by rw [List.length_map, List.length_replicate]) ?_
    clear ha a; intro a w23 ha hg hb6'
    clear hb6; have hb6 := hb6'; clear hb6'
    replace hB := keepB1 hg (by omega) hB
    replace hb4 := keepO1 hg (by omega) hb4
    clear hg
    refine hK22 _ _ ?_; clear hK22 K21
    refine wp_ret ?_
    repeat (first | (with_reducible refine t_ret ?_) | (with_reducible refine x_ret ?_))
    exact retC _ ha Tryd.results41 rfl hb6 Tryd.underlying33 rfl (by rw [List.length_map, eaA_len, hp]; kernel_rfl) ⟨rfl, hB⟩

theorem c_rplus (p q : List Int) (w0 : World) (hp : p.length = 256) (hq : q.length = 256) :
    Calls Tryd.prog 37 #[.agg ((p).map ei).toArray, .agg ((q).map ei).toArray] w0 fun e w' => e = .returned (.agg ((pl p q).map ei).toArray) ∧ Below w0.heap.size w0 w' := by
  refine enter (args := [_, _]) Tryd.func37 rfl Tryd.ntmps37 rfl ?_
  intro a ha
  have hB := Below.refl w0.heap.size w0
  refine wp_seq_k fun K1 hK2 => ?_
  refine region ?_
  refine sbox ha rfl rfl ?_
  clear ha a; intro a w3 b4 ha hg hb4 hge4 hlt4
  have hz4 : w0.heap.size ≤ b4 := Nat.le_trans hB.size hge4
  replace hB := keepB0 hg hB
  clear hg hge4 hlt4
  refine sbox ha rfl rfl ?_
  clear ha a; intro a w5 b6 ha hg hb6 hge6 hlt6
  have hz6 : w0.heap.size ≤ b6 := Nat.le_trans hB.size hge6
  have hq4_6 : b4 < b6 := Nat.lt_of_lt_of_le (lt_of_block hb4) hge6
  replace hB := keepB0 hg hB
  replace hb4 := keepO0 hg hb4
  clear hg hge6 hlt6
  refine salloc ha zero_33Z4 rfl ?_
  clear ha a; intro a w7 b8 ha hg hb8 hge8 hlt8
  have hz8 : w0.heap.size ≤ b8 := Nat.le_trans hB.size hge8
  have hq4_8 : b4 < b8 := Nat.lt_of_lt_of_le (lt_of_block hb4) hge8
  have hq6_8 : b6 < b8 := Nat.lt_of_lt_of_le (lt_of_block hb6) hge8
  replace hB := keepB0 hg hB
  replace hb4 := keepO0 hg hb4
  replace hb6 := keepO0 hg hb6
  clear hg hge8 hlt8
  refine hK2 _ _ ?_; clear hK2 K1
  refine wp_seq_k fun K9 hK10 => ?_
  refine region ?_
  refine sv ha (r_loadR ha rfl Tryd.isAgg33 Tryd.sizeOf33 (C := (p).map ei) (by rw [List.length_map, hp]) (cells_all hb4)) rfl rfl rfl ?_; clear ha a; intro a ha
  refine sc ha (r_call ha [.agg ((p).map ei).toArray] rfl Tryd.call41) rfl rfl rfl (c_rclean p _ (by rw [hp])) ?_
  clear ha a
  rintro e w11 ⟨rfl, hBc⟩
  have hg := grown_call hBc; clear hBc
  replace hB := keepB0 hg hB
  replace hb4 := keepO0 hg hb4
  replace hb6 := keepO0 hg hb6
  replace hb8 := keepO0 hg hb8
  clear hg
  refine ⟨_, rfl, ?_⟩; intro a ha
  refine sstoreW ha rfl rfl (one_ei _) Tryd.sizeOf33 (by rw [List.length_map, (cl_red _ (by rw [hp])).len]) hb4 (by rw [List.length_map, hp]) ?_
  clear ha a; intro a w12 ha hg hb4'
  clear hb4; have hb4 := hb4'; clear hb4'
  replace hB := keepB1 hg (by omega) hB
  replace hb6 := keepO1 hg (by omega) hb6
  replace hb8 := keepO1 hg (by omega) hb8
  clear hg
  refine hK10 _ _ ?_; clear hK10 K9
  refine wp_seq_k fun K13 hK14 => ?_
  refine region ?_
  refine sv ha (r_loadR ha rfl Tryd.isAgg33 Tryd.sizeOf33 (C := (q).map ei) (by rw [List.length_map, hq]) (cells_all hb6)) rfl rfl rfl ?_; clear ha a; intro a ha
  refine sc ha (r_call ha [.agg ((q).map ei).toArray] rfl Tryd.call41) rfl rfl rfl (c_rclean q _ (by rw [hq])) ?_
  clear ha a
  rintro e w15 ⟨rfl, hBc⟩
  have hg := grown_call hBc; clear hBc
  replace hB := keepB0 hg hB
  replace hb4 := keepO0 hg hb4
  replace hb6 := keepO0 hg hb6
  replace hb8 := keepO0 hg hb8
  clear hg
  refine ⟨_, rfl, ?_⟩; intro a ha
  refine sstoreW ha rfl rfl (one_ei _) Tryd.sizeOf33 (by rw [List.length_map, (cl_red _ (by rw [hq])).len]) hb6 (by rw [List.length_map, hq]) ?_
  clear ha a; intro a w16 ha hg hb6'
  clear hb6; have hb6 := hb6'; clear hb6'
  replace hB := keepB1 hg (by omega) hB
  replace hb4 := keepO1 hg (by omega) hb4
  replace hb8 := keepO1 hg (by omega) hb8
  clear hg
  refine hK14 _ _ ?_; clear hK14 K13
  refine wp_seq_k fun K17 hK18 => ?_
  refine wp_seq_k fun K19 hK20 => ?_
  refine region ?_
  refine sv ha (r_assign ha rfl) rfl rfl rfl ?_; clear ha a; intro a ha
  refine hK20 _ _ ?_; clear hK20 K19
  refine wp_block ?_
  refine loopG (fun (k : Nat) a w => (k ≤ 256) ∧ Has 25 [(0, .agg ((p).map ei).toArray), (1, .agg ((q).map ei).toArray), (2, .pointer (some ⟨b4, 0, none⟩)), (3, .pointer (some ⟨b6, 0, none⟩)), (4, .pointer (some ⟨b8, 0, none⟩)), (6, .agg ((p).map ei).toArray), (7, .agg ((cl p).map ei).toArray), (8, .agg ((q).map ei).toArray), (9, .agg ((cl q).map ei).toArray), (5, en k)] a ∧ Below w0.heap.size w0 w ∧ w.heap[b4]? = some (.cells ((rplA (cl p) (cl q) k).map ei).toArray 33 (0, 0)) ∧ w.heap[b6]? = some (.cells ((cl q).map ei).toArray 33 (0, 0)) ∧ w.heap[b8]? = some (.cells ((List.replicate 256 (0 : Int)).map ei).toArray 33 (0, 0))) (fun k => 256 - k) 0 ⟨(by omega), ha.to [0, 1, 2, 3, 4, 6, 7, 8, 9, 5] rfl, hB, hb4, hb6, hb8⟩ ?_
  clear ha a hB hb4 hb6 hb8
  intro k a w21 ⟨hkk, ha, hB, hb4, hb6, hb8⟩
  refine wp_seq_k fun K22 hK23 => ?_
  refine wp_seq_k fun K24 hK25 => ?_
  refine region ?_
  refine sv ha (r_move ha rfl) rfl rfl rfl ?_; clear ha a; intro a ha
  refine sv ha (r_lss ha ((k : Nat) : Int) 256 (decide (k < 256)) rfl rfl (decide_eq_decide.2 (by omega))) rfl rfl rfl ?_; clear ha a; intro a ha
  refine hK25 _ _ ?_; clear hK25 K24
  refine cond_if ha rfl (fun hc26 => ?_) (fun hc26 => ?_)
  · skip
    replace hc26 := of_decide_eq_true hc26
    refine wp_skip ?_
    refine hK23 _ _ ?_; clear hK23 K22
    refine wp_seq_k fun K27 hK28 => ?_
    refine wp_block ?_
    refine regionD (S := fun w => Below w0.heap.size w0 w ∧ w.heap[b4]? = some (.cells ((rplA (cl p) (cl q) k).map ei).toArray 33 (0, 0)) ∧ w.heap[b6]? = some (.cells ((cl q).map ei).toArray 33 (0, 0)) ∧ w.heap[b8]? = some (.cells ((List.replicate 256 (0 : Int)).map ei).toArray 33 (0, 0)) ∧ True) [10] [0, 1, 2, 3, 4, 5, 6, 7, 8, 9] [0, 1, 2, 3, 4, 5, 6, 7, 8, 9, 10] mixed (by kernel_rfl) (fun w hg => ⟨keepB0 hg hB, keepO0 hg hb4, keepO0 hg hb6, keepO0 hg hb8, trivial⟩) ?_
    intro w29 hg
    replace hB := keepB0 hg hB
    replace hb4 := keepO0 hg hb4
    replace hb6 := keepO0 hg hb6
    replace hb8 := keepO0 hg hb8
    clear hg
    refine cv ha rfl rfl (fun w _ => r_move ha rfl) rfl rfl rfl ?_; clear ha a; intro a ha
    refine cv ha rfl rfl (fun w _ => r_move ha rfl) rfl rfl rfl ?_; clear ha a; intro a ha
    refine cv ha rfl rfl (fun w _ => r_indexArr (i := k) ha k Tryd.runUnderlying33 Tryd.sizeOf3 rfl rfl (by omega) (by omega)) rfl rfl rfl ?_; clear ha a; intro a ha
    have hlt30 := ((show Red (rplA (cl p) (cl q) k) from (rpl_red (cl_red p hp) k))).lt k
    refine cv ha rfl rfl (fun w ⟨hB, hb4, hb6, hb8, _⟩ => n_of (r_load ha rfl Tryd.isAgg3 (cell_of hb4 (get_map ei (rplA (cl p) (cl q) k) 0 k (by rw [(rpl_red (cl_red p hp) _).len]; omega)))) (k := tn (rplA (cl p) (cl q) k) k) ((show Red (rplA (cl p) (cl q) k) from (rpl_red (cl_red p hp) k)).tn _)) rfl rfl rfl ?_; clear ha a; intro a ha
    refine cv ha rfl rfl (fun w _ => r_move ha rfl) rfl rfl rfl ?_; clear ha a; intro a ha
    refine cv ha rfl rfl (fun w _ => r_indexArr (i := k) ha k Tryd.runUnderlying33 Tryd.sizeOf3 rfl rfl (by omega) (by omega)) rfl rfl rfl ?_; clear ha a; intro a ha
    have hlt31 := ((show Red (cl q) from (cl_red q hq))).lt k
    refine cv ha rfl rfl (fun w ⟨hB, hb4, hb6, hb8, _⟩ => n_of (r_load ha rfl Tryd.isAgg3 (cell_of hb6 (get_map ei (cl q) 0 k (by rw [(cl_red _ (by rw [hq])).len]; omega)))) (k := tn (cl q) k) ((show Red (cl q) from (cl_red q hq)).tn _)) rfl rfl rfl ?_; clear ha a; intro a ha
    refine cv ha rfl rfl (fun w _ => rn_add ha (tn (rplA (cl p) (cl q) k) k) (tn (cl q) k) rfl rfl (by omega)) rfl rfl rfl ?_; clear ha a; intro a ha
    refine cv ha rfl rfl (fun w _ => rn_rem ha ((tn (rplA (cl p) (cl q) k) k) + (tn (cl q) k)) 3329 rfl rfl (by omega)) rfl rfl rfl ?_; clear ha a; intro a ha
    refine cv ha rfl rfl (fun w _ => r_indexArr (i := k) ha k Tryd.runUnderlying33 Tryd.sizeOf3 rfl rfl (by omega) (by omega)) rfl rfl rfl ?_; clear ha a; intro a ha
    refine cstore ha rfl rfl (v := ei ((((tn (rplA (cl p) (cl q) k) k) + (tn (cl q) k)) % 3329 : Nat) : Int)) rfl rfl rfl rfl Tryd.sizeOf3 hb4 (by rw [List.length_map, (rpl_red (cl_red p hp) _).len]; omega) rfl ?_
    clear ha a; intro a w32 ha hg hb4'
    rw [set_map] at hb4'
    clear hb4; have hb4 := hb4'; clear hb4'
    replace hB := keepB1 hg (by omega) hB
    replace hb6 := keepO1 hg (by omega) hb6
    replace hb8 := keepO1 hg (by omega) hb8
    clear hg
    refine cfin (hK28 _ _ ?_); clear hK28 K27
    refine region ?_
    refine sv ha (r_move ha rfl) rfl rfl rfl ?_; clear ha a; intro a ha
    refine sv ha (rn_add ha k 1 rfl rfl (by omega)) rfl rfl rfl ?_; clear ha a; intro a ha
    refine sv ha (r_assign ha rfl) rfl rfl rfl ?_; clear ha a; intro a ha
    exact ⟨k + 1, by omega, (by omega), ha.to [0, 1, 2, 3, 4, 6, 7, 8, 9, 5] rfl, hB, hb4, hb6, hb8⟩
  · skip
    replace hc26 := of_decide_eq_false hc26
    refine wp_exit ?_
    obtain rfl : k = 256 := by omega
    refine hK18 _ _ ?_; clear hK23 K22 hK18 K17
    refine wp_seq_k fun K33 hK34 => ?_
    refine region ?_
    refine sv ha (r_loadR ha rfl Tryd.isAgg33 Tryd.sizeOf33 (C := (rplA (cl p) (cl q) 256).map ei) (by rw [List.length_map, (rpl_red (cl_red p hp) _).len]) (cells_all hb4)) rfl rfl rfl ?_; clear ha a; intro a ha
    refine sstoreW ha rfl rfl (one_ei _) Tryd.sizeOf33 (by rw [List.length_map, (rpl_red (cl_red p hp) _).len]) hb8 (by rw [List.length_map, List.length_replicate]) ?_
    clear ha a; intro a w35 ha hg hb8'
    clear hb8; have hb8 := hb8'; clear hb8'
    replace hB := keepB1 hg (by omega) hB
    replace hb4 := keepO1 hg (by omega) hb4
    replace hb6 := keepO1 hg (by omega) hb6
    clear hg
    refine hK34 _ _ ?_; clear hK34 K33
    refine wp_ret ?_
    repeat (first | (with_reducible refine t_ret ?_) | (with_reducible refine x_ret ?_))
    exact retC _ ha Tryd.results37 rfl hb8 Tryd.underlying33 rfl (by rw [List.length_map, (rpl_red (cl_red p hp) _).len]; kernel_rfl) ⟨(by rw [pl_eq p q hp hq]), hB⟩

theorem c_rminus (p q : List Int) (w0 : World) (hp : p.length = 256) (hq : q.length = 256) :
    Calls Tryd.prog 39 #[.agg ((p).map ei).toArray, .agg ((q).map ei).toArray] w0 fun e w' => e = .returned (.agg ((mi p q).map ei).toArray) ∧ Below w0.heap.size w0 w' := by
  refine enter (args := [_, _]) Tryd.func39 rfl Tryd.ntmps39 rfl ?_
  intro a ha
  have hB := Below.refl w0.heap.size w0
  refine wp_seq_k fun K1 hK2 => ?_
  refine region ?_
  refine sbox ha rfl rfl ?_
  clear ha a; intro a w3 b4 ha hg hb4 hge4 hlt4
  have hz4 : w0.heap.size ≤ b4 := Nat.le_trans hB.size hge4
  replace hB := keepB0 hg hB
  clear hg hge4 hlt4
  refine sbox ha rfl rfl ?_
  clear ha a; intro a w5 b6 ha hg hb6 hge6 hlt6
  have hz6 : w0.heap.size ≤ b6 := Nat.le_trans hB.size hge6
  have hq4_6 : b4 < b6 := Nat.lt_of_lt_of_le (lt_of_block hb4) hge6
  replace hB := keepB0 hg hB
  replace hb4 := keepO0 hg hb4
  clear hg hge6 hlt6
  refine salloc ha zero_33Z4 rfl ?_
  clear ha a; intro a w7 b8 ha hg hb8 hge8 hlt8
  have hz8 : w0.heap.size ≤ b8 := Nat.le_trans hB.size hge8
  have hq4_8 : b4 < b8 := Nat.lt_of_lt_of_le (lt_of_block hb4) hge8
  have hq6_8 : b6 < b8 := Nat.lt_of_lt_of_le (lt_of_block hb6) hge8
  replace hB := keepB0 hg hB
  replace hb4 := keepO0 hg hb4
  replace hb6 := keepO0 hg hb6
  clear hg hge8 hlt8
  refine hK2 _ _ ?_; clear hK2 K1
  refine wp_seq_k fun K9 hK10 => ?_
  refine region ?_
  refine sv ha (r_loadR ha rfl Tryd.isAgg33 Tryd.sizeOf33 (C := (p).map ei) (by rw [List.length_map, hp]) (cells_all hb4)) rfl rfl rfl ?_; clear ha a; intro a ha
  refine sc ha (r_call ha [.agg ((p).map ei).toArray] rfl Tryd.call41) rfl rfl rfl (c_rclean p _ (by rw [hp])) ?_
  clear ha a
  rintro e w11 ⟨rfl, hBc⟩
  have hg := grown_call hBc; clear hBc
  replace hB := keepB0 hg hB
  replace hb4 := keepO0 hg hb4
  replace hb6 := keepO0 hg hb6
  replace hb8 := keepO0 hg hb8
  clear hg
  refine ⟨_, rfl, ?_⟩; intro a ha
  refine sstoreW ha rfl rfl (one_ei _) Tryd.sizeOf33 (by rw [List.length_map, (cl_red _ (by rw [hp])).len]) hb4 (by rw [List.length_map, hp]) ?_
  clear ha a; intro a w12 ha hg hb4'
  clear hb4; have hb4 := hb4'; clear hb4'
  replace hB := keepB1 hg (by omega) hB
  replace hb6 := keepO1 hg (by omega) hb6
  replace hb8 := keepO1 hg (by omega) hb8
  clear hg
  refine hK10 _ _ ?_; clear hK10 K9
  refine wp_seq_k fun K13 hK14 => ?_
  refine region ?_
  refine sv ha (r_loadR ha rfl Tryd.isAgg33 Tryd.sizeOf33 (C := (q).map ei) (by rw [List.length_map, hq]) (cells_all hb6)) rfl rfl rfl ?_; clear ha a; intro a ha
  refine sc ha (r_call ha [.agg ((q).map ei).toArray] rfl Tryd.call41) rfl rfl rfl (c_rclean q _ (by rw [hq])) ?_
  clear ha a
  rintro e w15 ⟨rfl, hBc⟩
  have hg := grown_call hBc; clear hBc
  replace hB := keepB0 hg hB
  replace hb4 := keepO0 hg hb4
  replace hb6 := keepO0 hg hb6
  replace hb8 := keepO0 hg hb8
  clear hg
  refine ⟨_, rfl, ?_⟩; intro a ha
  refine sstoreW ha rfl rfl (one_ei _) Tryd.sizeOf33 (by rw [List.length_map, (cl_red _ (by rw [hq])).len]) hb6 (by rw [List.length_map, hq]) ?_
  clear ha a; intro a w16 ha hg hb6'
  clear hb6; have hb6 := hb6'; clear hb6'
  replace hB := keepB1 hg (by omega) hB
  replace hb4 := keepO1 hg (by omega) hb4
  replace hb8 := keepO1 hg (by omega) hb8
  clear hg
  refine hK14 _ _ ?_; clear hK14 K13
  refine wp_seq_k fun K17 hK18 => ?_
  refine wp_seq_k fun K19 hK20 => ?_
  refine region ?_
  refine sv ha (r_assign ha rfl) rfl rfl rfl ?_; clear ha a; intro a ha
  refine hK20 _ _ ?_; clear hK20 K19
  refine wp_block ?_
  refine loopG (fun (k : Nat) a w => (k ≤ 256) ∧ Has 26 [(0, .agg ((p).map ei).toArray), (1, .agg ((q).map ei).toArray), (2, .pointer (some ⟨b4, 0, none⟩)), (3, .pointer (some ⟨b6, 0, none⟩)), (4, .pointer (some ⟨b8, 0, none⟩)), (6, .agg ((p).map ei).toArray), (7, .agg ((cl p).map ei).toArray), (8, .agg ((q).map ei).toArray), (9, .agg ((cl q).map ei).toArray), (5, en k)] a ∧ Below w0.heap.size w0 w ∧ w.heap[b4]? = some (.cells ((rmiA (cl p) (cl q) k).map ei).toArray 33 (0, 0)) ∧ w.heap[b6]? = some (.cells ((cl q).map ei).toArray 33 (0, 0)) ∧ w.heap[b8]? = some (.cells ((List.replicate 256 (0 : Int)).map ei).toArray 33 (0, 0))) (fun k => 256 - k) 0 ⟨(by omega), ha.to [0, 1, 2, 3, 4, 6, 7, 8, 9, 5] rfl, hB, hb4, hb6, hb8⟩ ?_
  clear ha a hB hb4 hb6 hb8
  intro k a w21 ⟨hkk, ha, hB, hb4, hb6, hb8⟩
  refine wp_seq_k fun K22 hK23 => ?_
  refine wp_seq_k fun K24 hK25 => ?_
  refine region ?_
  refine sv ha (r_move ha rfl) rfl rfl rfl ?_; clear ha a; intro a ha
  refine sv ha (r_lss ha ((k : Nat) : Int) 256 (decide (k < 256)) rfl rfl (decide_eq_decide.2 (by omega))) rfl rfl rfl ?_; clear ha a; intro a ha
  refine hK25 _ _ ?_; clear hK25 K24
  refine cond_if ha rfl (fun hc26 => ?_) (fun hc26 => ?_)
  · skip
    replace hc26 := of_decide_eq_true hc26
    refine wp_skip ?_
    refine hK23 _ _ ?_; clear hK23 K22
    refine wp_seq_k fun K27 hK28 => ?_
    refine wp_block ?_
    refine regionD (S := fun w => Below w0.heap.size w0 w ∧ w.heap[b4]? = some (.cells ((rmiA (cl p) (cl q) k).map ei).toArray 33 (0, 0)) ∧ w.heap[b6]? = some (.cells ((cl q).map ei).toArray 33 (0, 0)) ∧ w.heap[b8]? = some (.cells ((List.replicate 256 (0 : Int)).map ei).toArray 33 (0, 0)) ∧ True) [11] [0, 1, 2, 3, 4, 5, 6, 7, 8, 9, 10] [0, 1, 2, 3, 4, 5, 6, 7, 8, 9, 10, 11] mixed (by kernel_rfl) (fun w hg => ⟨keepB0 hg hB, keepO0 hg hb4, keepO0 hg hb6, keepO0 hg hb8, trivial⟩) ?_
    intro w29 hg
    replace hB := keepB0 hg hB
    replace hb4 := keepO0 hg hb4
    replace hb6 := keepO0 hg hb6
    replace hb8 := keepO0 hg hb8
    clear hg
    refine cv ha rfl rfl (fun w _ => r_move ha rfl) rfl rfl rfl ?_; clear ha a; intro a ha
    refine cv ha rfl rfl (fun w _ => r_move ha rfl) rfl rfl rfl ?_; clear ha a; intro a ha
    refine cv ha rfl rfl (fun w _ => r_indexArr (i := k) ha k Tryd.runUnderlying33 Tryd.sizeOf3 rfl rfl (by omega) (by omega)) rfl rfl rfl ?_; clear ha a; intro a ha
    have hlt30 := ((show Red (rmiA (cl p) (cl q) k) from (rmi_red (cl_red p hp) k))).lt k
    refine cv ha rfl rfl (fun w ⟨hB, hb4, hb6, hb8, _⟩ => n_of (r_load ha rfl Tryd.isAgg3 (cell_of hb4 (get_map ei (rmiA (cl p) (cl q) k) 0 k (by rw [(rmi_red (cl_red p hp) _).len]; omega)))) (k := tn (rmiA (cl p) (cl q) k) k) ((show Red (rmiA (cl p) (cl q) k) from (rmi_red (cl_red p hp) k)).tn _)) rfl rfl rfl ?_; clear ha a; intro a ha
    refine cv ha rfl rfl (fun w _ => rn_add ha (tn (rmiA (cl p) (cl q) k) k) 3329 rfl rfl (by omega)) rfl rfl rfl ?_; clear ha a; intro a ha
    refine cv ha rfl rfl (fun w _ => r_move ha rfl) rfl rfl rfl ?_; clear ha a; intro a ha
    refine cv ha rfl rfl (fun w _ => r_indexArr (i := k) ha k Tryd.runUnderlying33 Tryd.sizeOf3 rfl rfl (by omega) (by omega)) rfl rfl rfl ?_; clear ha a; intro a ha
    have hlt31 := ((show Red (cl q) from (cl_red q hq))).lt k
    refine cv ha rfl rfl (fun w ⟨hB, hb4, hb6, hb8, _⟩ => n_of (r_load ha rfl Tryd.isAgg3 (cell_of hb6 (get_map ei (cl q) 0 k (by rw [(cl_red _ (by rw [hq])).len]; omega)))) (k := tn (cl q) k) ((show Red (cl q) from (cl_red q hq)).tn _)) rfl rfl rfl ?_; clear ha a; intro a ha
    refine cv ha rfl rfl (fun w _ => rn_sub ha ((tn (rmiA (cl p) (cl q) k) k) + 3329) (tn (cl q) k) rfl rfl (by omega) (by omega)) rfl rfl rfl ?_; clear ha a; intro a ha
    refine cv ha rfl rfl (fun w _ => rn_rem ha (((tn (rmiA (cl p) (cl q) k) k) + 3329) - (tn (cl q) k)) 3329 rfl rfl (by omega)) rfl rfl rfl ?_; clear ha a; intro a ha
    refine cv ha rfl rfl (fun w _ => r_indexArr (i := k) ha k Tryd.runUnderlying33 Tryd.sizeOf3 rfl rfl (by omega) (by omega)) rfl rfl rfl ?_; clear ha a; intro a ha
    refine cstore ha rfl rfl (v := ei (((((tn (rmiA (cl p) (cl q) k) k) + 3329) - (tn (cl q) k)) % 3329 : Nat) : Int)) rfl rfl rfl rfl Tryd.sizeOf3 hb4 (by rw [List.length_map, (rmi_red (cl_red p hp) _).len]; omega) rfl ?_
    clear ha a; intro a w32 ha hg hb4'
    rw [set_map] at hb4'
    clear hb4; have hb4 := hb4'; clear hb4'
    replace hB := keepB1 hg (by omega) hB
    replace hb6 := keepO1 hg (by omega) hb6
    replace hb8 := keepO1 hg (by omega) hb8
    clear hg
    refine cfin (hK28 _ _ ?_); clear hK28 K27
    refine region ?_
    refine sv ha (r_move ha rfl) rfl rfl rfl ?_; clear ha a; intro a ha
    refine sv ha (rn_add ha k 1 rfl rfl (by omega)) rfl rfl rfl ?_; clear ha a; intro a ha
    refine sv ha (r_assign ha rfl) rfl rfl rfl ?_; clear ha a; intro a ha
    exact ⟨k + 1, by omega, (by omega), ha.to [0, 1, 2, 3, 4, 6, 7, 8, 9, 5] rfl, hB, hb4, hb6, hb8⟩
  · skip
    replace hc26 := of_decide_eq_false hc26
    refine wp_exit ?_
    obtain rfl : k = 256 := by omega
    refine hK18 _ _ ?_; clear hK23 K22 hK18 K17
    refine wp_seq_k fun K33 hK34 => ?_
    refine region ?_
    refine sv ha (r_loadR ha rfl Tryd.isAgg33 Tryd.sizeOf33 (C := (rmiA (cl p) (cl q) 256).map ei) (by rw [List.length_map, (rmi_red (cl_red p hp) _).len]) (cells_all hb4)) rfl rfl rfl ?_; clear ha a; intro a ha
    refine sstoreW ha rfl rfl (one_ei _) Tryd.sizeOf33 (by rw [List.length_map, (rmi_red (cl_red p hp) _).len]) hb8 (by rw [List.length_map, List.length_replicate]) ?_
    clear ha a; intro a w35 ha hg hb8'
    clear hb8; have hb8 := hb8'; clear hb8'
    replace hB := keepB1 hg (by omega) hB
    replace hb4 := keepO1 hg (by omega) hb4
    replace hb6 := keepO1 hg (by omega) hb6
    clear hg
    refine hK34 _ _ ?_; clear hK34 K33
    refine wp_ret ?_
    repeat (first | (with_reducible refine t_ret ?_) | (with_reducible refine x_ret ?_))
    exact retC _ ha Tryd.results39 rfl hb8 Tryd.underlying33 rfl (by rw [List.length_map, (rmi_red (cl_red p hp) _).len]; kernel_rfl) ⟨(by rw [mi_eq p q hp hq]), hB⟩

theorem c_root (i : Nat) (w0 : World) (hi : i < 128) :
    Calls Tryd.prog 57 #[en i] w0 fun e w' => e = .returned (en (rootN i)) ∧ Below w0.heap.size w0 w' := by
  refine enter (args := [_]) Tryd.func57 rfl Tryd.ntmps57 rfl ?_
  intro a ha
  have hB := Below.refl w0.heap.size w0
  have htl : turned ((i : Nat) : Int) < 2 ^ 7 := tuN_le _ 7
  refine wp_seq_k fun K1 hK2 => ?_
  refine region ?_
  refine sv ha (r_assign ha rfl) rfl rfl rfl ?_; clear ha a; intro a ha
  refine hK2 _ _ ?_; clear hK2 K1
  refine wp_seq_k fun K3 hK4 => ?_
  refine region ?_
  refine sv ha (r_move ha rfl) rfl rfl rfl ?_; clear ha a; intro a ha
  refine sc ha (r_call ha [ei ((i : Nat) : Int)] rfl Tryd.call52) rfl rfl rfl (c_turned ((i : Nat) : Int) _ ) ?_
  clear ha a
  rintro e w5 ⟨rfl, hBc⟩
  have hg := grown_call hBc; clear hBc
  replace hB := keepB0 hg hB
  clear hg
  refine ⟨_, rfl, ?_⟩; intro a ha
  refine sv ha (rn_mul ha 2 (turned ((i : Nat) : Int)) rfl rfl (by omega)) rfl rfl rfl ?_; clear ha a; intro a ha
  refine sv ha (rn_add ha (2 * (turned ((i : Nat) : Int))) 1 rfl rfl (by omega)) rfl rfl rfl ?_; clear ha a; intro a ha
  refine sc ha (r_call ha [ei 17, en ((2 * (turned ((i : Nat) : Int))) + 1)] rfl Tryd.call25) rfl rfl rfl (c_rpow 17 ((2 * (turned ((i : Nat) : Int))) + 1) _ ) ?_
  clear ha a
  rintro e w6 ⟨rfl, hBc⟩
  have hg := grown_call hBc; clear hBc
  replace hB := keepB0 hg hB
  clear hg
  refine ⟨_, rfl, ?_⟩; intro a ha
  refine sv ha (r_assign ha rfl) rfl rfl rfl ?_; clear ha a; intro a ha
  refine hK4 _ _ ?_; clear hK4 K3
  refine wp_ret ?_
  repeat (first | (with_reducible refine t_ret ?_) | (with_reducible refine x_ret ?_))
  exact ret1 ha Tryd.results57 rfl ⟨rfl, hB⟩

theorem c_rfwd (p : List Int) (w0 : World) (hp : p.length = 256) :
    Calls Tryd.prog 43 #[.agg ((p).map ei).toArray] w0 fun e w' => e = .returned (.agg ((fwd p).map ei).toArray) ∧ Below w0.heap.size w0 w' := by
  refine enter (args := [_]) Tryd.func43 rfl Tryd.ntmps43 rfl ?_
  intro a ha
  have hB := Below.refl w0.heap.size w0
  refine wp_seq_k fun K1 hK2 => ?_
  refine region ?_
  refine sbox ha rfl rfl ?_
  clear ha a; intro a w3 b4 ha hg hb4 hge4 hlt4
  have hz4 : w0.heap.size ≤ b4 := Nat.le_trans hB.size hge4
  replace hB := keepB0 hg hB
  clear hg hge4 hlt4
  refine salloc ha zero_33Z4 rfl ?_
  clear ha a; intro a w5 b6 ha hg hb6 hge6 hlt6
  have hz6 : w0.heap.size ≤ b6 := Nat.le_trans hB.size hge6
  have hq4_6 : b4 < b6 := Nat.lt_of_lt_of_le (lt_of_block hb4) hge6
  replace hB := keepB0 hg hB
  replace hb4 := keepO0 hg hb4
  clear hg hge6 hlt6
  refine hK2 _ _ ?_; clear hK2 K1
  refine wp_seq_k fun K7 hK8 => ?_
  refine region ?_
  refine sv ha (r_loadR ha rfl Tryd.isAgg33 Tryd.sizeOf33 (C := (p).map ei) (by rw [List.length_map, hp]) (cells_all hb4)) rfl rfl rfl ?_; clear ha a; intro a ha
  refine sc ha (r_call ha [.agg ((p).map ei).toArray] rfl Tryd.call41) rfl rfl rfl (c_rclean p _ (by rw [hp])) ?_
  clear ha a
  rintro e w9 ⟨rfl, hBc⟩
  have hg := grown_call hBc; clear hBc
  replace hB := keepB0 hg hB
  replace hb4 := keepO0 hg hb4
  replace hb6 := keepO0 hg hb6
  clear hg
  refine ⟨_, rfl, ?_⟩; intro a ha
  refine sstoreW ha rfl rfl (one_ei _) Tryd.sizeOf33 (by rw [List.length_map, (cl_red _ (by rw [hp])).len]) hb4 (by rw [List.length_map, hp]) ?_
  clear ha a; intro a w10 ha hg hb4'
  clear hb4; have hb4 := hb4'; clear hb4'
  replace hB := keepB1 hg (by omega) hB
  replace hb6 := keepO1 hg (by omega) hb6
  clear hg
  refine hK8 _ _ ?_; clear hK8 K7
  refine wp_seq_k fun K11 hK12 => ?_
  refine region ?_
  refine salloc ha zero_33Z4 rfl ?_
  clear ha a; intro a w13 b14 ha hg hb14 hge14 hlt14
  have hz14 : w0.heap.size ≤ b14 := Nat.le_trans hB.size hge14
  have hq4_14 : b4 < b14 := Nat.lt_of_lt_of_le (lt_of_block hb4) hge14
  have hq6_14 : b6 < b14 := Nat.lt_of_lt_of_le (lt_of_block hb6) hge14
  replace hB := keepB0 hg hB
  replace hb4 := keepO0 hg hb4
  replace hb6 := keepO0 hg hb6
  clear hg hge14 hlt14
  refine hK12 _ _ ?_; clear hK12 K11
  refine wp_seq_k fun K15 hK16 => ?_
  refine wp_seq_k fun K17 hK18 => ?_
  refine region ?_
  refine sv ha (r_assign ha rfl) rfl rfl rfl ?_; clear ha a; intro a ha
  refine hK18 _ _ ?_; clear hK18 K17
  refine wp_block ?_
  refine loopG (fun (i : Nat) a w => (i ≤ 128) ∧ Has 50 [(0, .agg ((p).map ei).toArray), (1, .pointer (some ⟨b4, 0, none⟩)), (2, .pointer (some ⟨b6, 0, none⟩)), (9, .agg ((p).map ei).toArray), (10, .agg ((cl p).map ei).toArray), (3, .pointer (some ⟨b14, 0, none⟩)), (4, en i)] a ∧ Below w0.heap.size w0 w ∧ w.heap[b4]? = some (.cells ((cl p).map ei).toArray 33 (0, 0)) ∧ w.heap[b6]? = some (.cells ((List.replicate 256 (0 : Int)).map ei).toArray 33 (0, 0)) ∧ w.heap[b14]? = some (.cells ((rfwA (cl p) i).map ei).toArray 33 (0, 0))) (fun i => 128 - i) 0 ⟨(by omega), ha.to [0, 1, 2, 9, 10, 3, 4] rfl, hB, hb4, hb6, hb14⟩ ?_
  clear ha a hB hb4 hb6 hb14
  intro i a w19 ⟨hki, ha, hB, hb4, hb6, hb14⟩
  refine wp_seq_k fun K20 hK21 => ?_
  refine wp_seq_k fun K22 hK23 => ?_
  refine region ?_
  refine sv ha (r_move ha rfl) rfl rfl rfl ?_; clear ha a; intro a ha
  refine sv ha (r_lss ha ((i : Nat) : Int) 128 (decide (i < 128)) rfl rfl (decide_eq_decide.2 (by omega))) rfl rfl rfl ?_; clear ha a; intro a ha
  refine hK23 _ _ ?_; clear hK23 K22
  refine cond_if ha rfl (fun hc24 => ?_) (fun hc24 => ?_)
  · skip
    replace hc24 := of_decide_eq_true hc24
    refine wp_skip ?_
    refine hK21 _ _ ?_; clear hK21 K20
    refine wp_seq_k fun K25 hK26 => ?_
    refine wp_block ?_
    refine wp_seq_k fun K27 hK28 => ?_
    refine region ?_
    refine sv ha (r_move ha rfl) rfl rfl rfl ?_; clear ha a; intro a ha
    refine sc ha (r_call ha [en i] rfl Tryd.call57) rfl rfl rfl (c_root i _ (by omega)) ?_
    clear ha a
    rintro e w29 ⟨rfl, hBc⟩
    have hg := grown_call hBc; clear hBc
    replace hB := keepB0 hg hB
    replace hb4 := keepO0 hg hb4
    replace hb6 := keepO0 hg hb6
    replace hb14 := keepO0 hg hb14
    clear hg
    refine ⟨_, rfl, ?_⟩; intro a ha
    refine sv ha (r_assign ha rfl) rfl rfl rfl ?_; clear ha a; intro a ha
    refine hK28 _ _ ?_; clear hK28 K27
    refine wp_seq_k fun K30 hK31 => ?_
    refine region ?_
    refine sv ha (r_assign ha rfl) rfl rfl rfl ?_; clear ha a; intro a ha
    refine hK31 _ _ ?_; clear hK31 K30
    refine wp_seq_k fun K32 hK33 => ?_
    refine region ?_
    refine sv ha (r_assign ha rfl) rfl rfl rfl ?_; clear ha a; intro a ha
    refine hK33 _ _ ?_; clear hK33 K32
    refine wp_seq_k fun K34 hK35 => ?_
    refine wp_seq_k fun K36 hK37 => ?_
    refine region ?_
    refine sv ha (r_assign ha rfl) rfl rfl rfl ?_; clear ha a; intro a ha
    refine hK37 _ _ ?_; clear hK37 K36
    refine wp_block ?_
    refine loopG (fun (t : Nat) a w => (t ≤ 128) ∧ Has 50 [(0, .agg ((p).map ei).toArray), (1, .pointer (some ⟨b4, 0, none⟩)), (2, .pointer (some ⟨b6, 0, none⟩)), (9, .agg ((p).map ei).toArray), (10, .agg ((cl p).map ei).toArray), (3, .pointer (some ⟨b14, 0, none⟩)), (4, en i), (11, en i), (12, .bool (decide (i < 128))), (15, en i), (16, en (rootN i)), (5, en (rootN i)), (8, ei (127 - ((t : Nat) : Int))), (6, en (hzA (cl p) (rootN i) 0 t)), (7, en (hzA (cl p) (rootN i) 1 t))] a ∧ Below w0.heap.size w0 w ∧ w.heap[b4]? = some (.cells ((cl p).map ei).toArray 33 (0, 0)) ∧ w.heap[b6]? = some (.cells ((List.replicate 256 (0 : Int)).map ei).toArray 33 (0, 0)) ∧ w.heap[b14]? = some (.cells ((rfwA (cl p) i).map ei).toArray 33 (0, 0))) (fun t => 128 - t) 0 ⟨(by omega), ha.to [0, 1, 2, 9, 10, 3, 4, 11, 12, 15, 16, 5, 8, 6, 7] rfl, hB, hb4, hb6, hb14⟩ ?_
    clear ha a hB hb4 hb6 hb14
    intro t a w38 ⟨hkt, ha, hB, hb4, hb6, hb14⟩
    have hz0 := hzA_lt (cl p) (rootN i) 0 t
    have hz1 := hzA_lt (cl p) (rootN i) 1 t
    have hrt := rootN_lt i
    refine wp_seq_k fun K39 hK40 => ?_
    refine wp_seq_k fun K41 hK42 => ?_
    refine region ?_
    refine sv ha (r_move ha rfl) rfl rfl rfl ?_; clear ha a; intro a ha
    refine sv ha (r_geq ha (127 - ((t : Nat) : Int)) 0 (decide (127 - ((t : Nat) : Int) ≥ 0)) rfl rfl (decide_eq_decide.2 (by omega))) rfl rfl rfl ?_; clear ha a; intro a ha
    refine hK42 _ _ ?_; clear hK42 K41
    refine cond_if ha rfl (fun hc43 => ?_) (fun hc43 => ?_)
    · skip
      replace hc43 := of_decide_eq_true hc43
      refine wp_skip ?_
      refine hK40 _ _ ?_; clear hK40 K39
      refine wp_seq_k fun K44 hK45 => ?_
      refine wp_block ?_
      refine wp_seq_k fun K46 hK47 => ?_
      refine region ?_
      refine sv ha (r_move ha rfl) rfl rfl rfl ?_; clear ha a; intro a ha
      refine sv ha (r_move ha rfl) rfl rfl rfl ?_; clear ha a; intro a ha
      have hmm48 := Nat.mul_le_mul (show hzA (cl p) (rootN i) 0 t ≤ 3328 by omega) (show rootN i ≤ 3328 by omega)
      refine sv ha (rn_mul ha (hzA (cl p) (rootN i) 0 t) (rootN i) rfl rfl (by omega)) rfl rfl rfl ?_; clear ha a; intro a ha
      refine sv ha (r_move ha rfl) rfl rfl rfl ?_; clear ha a; intro a ha
      refine sv ha (n_of (r_mul ha 2 (127 - ((t : Nat) : Int)) rfl rfl (by omega)) (k := 2 * (127 - t)) (by omega)) rfl rfl rfl ?_; clear ha a; intro a ha
      refine sv ha (r_indexArr (i := 2 * (127 - t)) ha (2 * (127 - t)) Tryd.runUnderlying33 Tryd.sizeOf3 rfl rfl (by omega) (by omega)) rfl rfl rfl ?_; clear ha a; intro a ha
      have hlt49 := ((show Red (cl p) from (cl_red p hp))).lt (2 * (127 - t))
      refine sv ha (n_of (r_load ha rfl Tryd.isAgg3 (cell_of hb4 (get_map ei (cl p) 0 (2 * (127 - t)) (by rw [(cl_red _ (by rw [hp])).len]; omega)))) (k := tn (cl p) (2 * (127 - t))) ((show Red (cl p) from (cl_red p hp)).tn _)) rfl rfl rfl ?_; clear ha a; intro a ha
      refine sv ha (rn_add ha ((hzA (cl p) (rootN i) 0 t) * (rootN i)) (tn (cl p) (2 * (127 - t))) rfl rfl (by omega)) rfl rfl rfl ?_; clear ha a; intro a ha
      refine sv ha (rn_rem ha (((hzA (cl p) (rootN i) 0 t) * (rootN i)) + (tn (cl p) (2 * (127 - t)))) 3329 rfl rfl (by omega)) rfl rfl rfl ?_; clear ha a; intro a ha
      refine sv ha (r_assign ha rfl) rfl rfl rfl ?_; clear ha a; intro a ha
      refine hK47 _ _ ?_; clear hK47 K46
      refine region ?_
      refine sv ha (r_move ha rfl) rfl rfl rfl ?_; clear ha a; intro a ha
      refine sv ha (r_move ha rfl) rfl rfl rfl ?_; clear ha a; intro a ha
      have hmm50 := Nat.mul_le_mul (show hzA (cl p) (rootN i) 1 t ≤ 3328 by omega) (show rootN i ≤ 3328 by omega)
      refine sv ha (rn_mul ha (hzA (cl p) (rootN i) 1 t) (rootN i) rfl rfl (by omega)) rfl rfl rfl ?_; clear ha a; intro a ha
      refine sv ha (r_move ha rfl) rfl rfl rfl ?_; clear ha a; intro a ha
      refine sv ha (n_of (r_mul ha 2 (127 - ((t : Nat) : Int)) rfl rfl (by omega)) (k := 2 * (127 - t)) (by omega)) rfl rfl rfl ?_; clear ha a; intro a ha
      refine sv ha (rn_add ha (2 * (127 - t)) 1 rfl rfl (by omega)) rfl rfl rfl ?_; clear ha a; intro a ha
      refine sv ha (r_indexArr (i := (2 * (127 - t)) + 1) ha ((2 * (127 - t)) + 1) Tryd.runUnderlying33 Tryd.sizeOf3 rfl rfl (by omega) (by omega)) rfl rfl rfl ?_; clear ha a; intro a ha
      have hlt51 := ((show Red (cl p) from (cl_red p hp))).lt ((2 * (127 - t)) + 1)
      refine sv ha (n_of (r_load ha rfl Tryd.isAgg3 (cell_of hb4 (get_map ei (cl p) 0 ((2 * (127 - t)) + 1) (by rw [(cl_red _ (by rw [hp])).len]; omega)))) (k := tn (cl p) ((2 * (127 - t)) + 1)) ((show Red (cl p) from (cl_red p hp)).tn _)) rfl rfl rfl ?_; clear ha a; intro a ha
      refine sv ha (rn_add ha ((hzA (cl p) (rootN i) 1 t) * (rootN i)) (tn (cl p) ((2 * (127 - t)) + 1)) rfl rfl (by omega)) rfl rfl rfl ?_; clear ha a; intro a ha
      refine sv ha (rn_rem ha (((hzA (cl p) (rootN i) 1 t) * (rootN i)) + (tn (cl p) ((2 * (127 - t)) + 1))) 3329 rfl rfl (by omega)) rfl rfl rfl ?_; clear ha a; intro a ha
      refine sv ha (r_assign ha rfl) rfl rfl rfl ?_; clear ha a; intro a ha
      refine hK45 _ _ ?_; clear hK45 K44
      refine region ?_
      refine sv ha (r_move ha rfl) rfl rfl rfl ?_; clear ha a; intro a ha
      refine sv ha (z_of (r_sub ha (127 - ((t : Nat) : Int)) 1 rfl rfl (by omega)) (k := 127 - ((t + 1 : Nat) : Int)) (by omega)) rfl rfl rfl ?_; clear ha a; intro a ha
      refine sv ha (r_assign ha rfl) rfl rfl rfl ?_; clear ha a; intro a ha
      exact ⟨t + 1, by omega, (by omega), ha.to [0, 1, 2, 9, 10, 3, 4, 11, 12, 15, 16, 5, 8, 6, 7] rfl, hB, hb4, hb6, hb14⟩
    · skip
      replace hc43 := of_decide_eq_false hc43
      refine wp_exit ?_
      obtain rfl : t = 128 := by omega
      refine hK35 _ _ ?_; clear hK40 K39 hK35 K34
      refine wp_seq_k fun K52 hK53 => ?_
      refine region ?_
      refine sv ha (r_move ha rfl) rfl rfl rfl ?_; clear ha a; intro a ha
      refine sv ha (rn_mul ha 2 i rfl rfl (by omega)) rfl rfl rfl ?_; clear ha a; intro a ha
      refine sv ha (r_move ha rfl) rfl rfl rfl ?_; clear ha a; intro a ha
      refine sv ha (r_indexArr (i := 2 * i) ha (2 * i) Tryd.runUnderlying33 Tryd.sizeOf3 rfl rfl (by omega) (by omega)) rfl rfl rfl ?_; clear ha a; intro a ha
      refine sstore ha (v := ei ((hzA (cl p) (rootN i) 0 128 : Nat) : Int)) rfl rfl rfl rfl Tryd.sizeOf3 hb14 (by rw [List.length_map, (rfw_red _ _).len]; omega) ?_
      clear ha a; intro a w54 ha hg hb14'
      rw [set_map] at hb14'
      clear hb14; have hb14 := hb14'; clear hb14'
      replace hB := keepB1 hg (by omega) hB
      replace hb4 := keepO1 hg (by omega) hb4
      replace hb6 := keepO1 hg (by omega) hb6
      clear hg
      refine hK53 _ _ ?_; clear hK53 K52
      refine region ?_
      refine sv ha (r_move ha rfl) rfl rfl rfl ?_; clear ha a; intro a ha
      refine sv ha (rn_mul ha 2 i rfl rfl (by omega)) rfl rfl rfl ?_; clear ha a; intro a ha
      refine sv ha (rn_add ha (2 * i) 1 rfl rfl (by omega)) rfl rfl rfl ?_; clear ha a; intro a ha
      refine sv ha (r_move ha rfl) rfl rfl rfl ?_; clear ha a; intro a ha
      refine sv ha (r_indexArr (i := (2 * i) + 1) ha ((2 * i) + 1) Tryd.runUnderlying33 Tryd.sizeOf3 rfl rfl (by omega) (by omega)) rfl rfl rfl ?_; clear ha a; intro a ha
      refine sstore ha (v := ei ((hzA (cl p) (rootN i) 1 128 : Nat) : Int)) rfl rfl rfl rfl Tryd.sizeOf3 hb14 (by rw [List.length_map, List.length_set, (rfw_red _ _).len]; omega) ?_
      clear ha a; intro a w55 ha hg hb14'
      rw [set_map] at hb14'
      clear hb14; have hb14 := hb14'; clear hb14'
      replace hB := keepB1 hg (by omega) hB
      replace hb4 := keepO1 hg (by omega) hb4
      replace hb6 := keepO1 hg (by omega) hb6
      clear hg
      refine hK26 _ _ ?_; clear hK26 K25
      refine region ?_
      refine sv ha (r_move ha rfl) rfl rfl rfl ?_; clear ha a; intro a ha
      refine sv ha (rn_add ha i 1 rfl rfl (by omega)) rfl rfl rfl ?_; clear ha a; intro a ha
      refine sv ha (r_assign ha rfl) rfl rfl rfl ?_; clear ha a; intro a ha
      exact ⟨i + 1, by omega, (by omega), ha.to [0, 1, 2, 9, 10, 3, 4] rfl, hB, hb4, hb6, hb14⟩
  · skip
    replace hc24 := of_decide_eq_false hc24
    refine wp_exit ?_
    obtain rfl : i = 128 := by omega
    refine hK16 _ _ ?_; clear hK21 K20 hK16 K15
    refine wp_seq_k fun K56 hK57 => ?_
    refine region ?_
    refine sv ha (r_loadR ha rfl Tryd.isAgg33 Tryd.sizeOf33 (C := (rfwA (cl p) 128).map ei) (by rw [List.length_map, (rfw_red _ _).len]) (cells_all hb14)) rfl rfl rfl ?_; clear ha a; intro a ha
    refine sstoreW ha rfl rfl (one_ei _) Tryd.sizeOf33 (by rw [List.length_map, (rfw_red _ _).len]) hb6 (by rw [List.length_map, List.length_replicate]) ?_
    clear ha a; intro a w58 ha hg hb6'
    clear hb6; have hb6 := hb6'; clear hb6'
    replace hB := keepB1 hg (by omega) hB
    replace hb4 := keepO1 hg (by omega) hb4
    replace hb14 := keepO1 hg (by omega) hb14
    clear hg
    refine hK57 _ _ ?_; clear hK57 K56
    refine wp_ret ?_
    repeat (first | (with_reducible refine t_ret ?_) | (with_reducible refine x_ret ?_))
    exact retC _ ha Tryd.results43 rfl hb6 Tryd.underlying33 rfl (by rw [List.length_map, (rfw_red _ _).len]; kernel_rfl) ⟨(by rw [fwd_eq p hp]), hB⟩

theorem c_rinv (p : List Int) (w0 : World) (hp : p.length = 256) :
    Calls Tryd.prog 45 #[.agg ((p).map ei).toArray] w0 fun e w' => e = .returned (.agg ((inv p).map ei).toArray) ∧ Below w0.heap.size w0 w' := by
  refine enter (args := [_]) Tryd.func45 rfl Tryd.ntmps45 rfl ?_
  intro a ha
  have hB := Below.refl w0.heap.size w0
  refine wp_seq_k fun K1 hK2 => ?_
  refine region ?_
  refine sbox ha rfl rfl ?_
  clear ha a; intro a w3 b4 ha hg hb4 hge4 hlt4
  have hz4 : w0.heap.size ≤ b4 := Nat.le_trans hB.size hge4
  replace hB := keepB0 hg hB
  clear hg hge4 hlt4
  refine salloc ha zero_33Z4 rfl ?_
  clear ha a; intro a w5 b6 ha hg hb6 hge6 hlt6
  have hz6 : w0.heap.size ≤ b6 := Nat.le_trans hB.size hge6
  have hq4_6 : b4 < b6 := Nat.lt_of_lt_of_le (lt_of_block hb4) hge6
  replace hB := keepB0 hg hB
  replace hb4 := keepO0 hg hb4
  clear hg hge6 hlt6
  refine hK2 _ _ ?_; clear hK2 K1
  refine wp_seq_k fun K7 hK8 => ?_
  refine region ?_
  refine sv ha (r_loadR ha rfl Tryd.isAgg33 Tryd.sizeOf33 (C := (p).map ei) (by rw [List.length_map, hp]) (cells_all hb4)) rfl rfl rfl ?_; clear ha a; intro a ha
  refine sc ha (r_call ha [.agg ((p).map ei).toArray] rfl Tryd.call41) rfl rfl rfl (c_rclean p _ (by rw [hp])) ?_
  clear ha a
  rintro e w9 ⟨rfl, hBc⟩
  have hg := grown_call hBc; clear hBc
  replace hB := keepB0 hg hB
  replace hb4 := keepO0 hg hb4
  replace hb6 := keepO0 hg hb6
  clear hg
  refine ⟨_, rfl, ?_⟩; intro a ha
  refine sstoreW ha rfl rfl (one_ei _) Tryd.sizeOf33 (by rw [List.length_map, (cl_red _ (by rw [hp])).len]) hb4 (by rw [List.length_map, hp]) ?_
  clear ha a; intro a w10 ha hg hb4'
  clear hb4; have hb4 := hb4'; clear hb4'
  replace hB := keepB1 hg (by omega) hB
  replace hb6 := keepO1 hg (by omega) hb6
  clear hg
  refine hK8 _ _ ?_; clear hK8 K7
  refine wp_seq_k fun K11 hK12 => ?_
  refine region ?_
  refine salloc ha zero_33Z4 rfl ?_
  clear ha a; intro a w13 b14 ha hg hb14 hge14 hlt14
  have hz14 : w0.heap.size ≤ b14 := Nat.le_trans hB.size hge14
  have hq4_14 : b4 < b14 := Nat.lt_of_lt_of_le (lt_of_block hb4) hge14
  have hq6_14 : b6 < b14 := Nat.lt_of_lt_of_le (lt_of_block hb6) hge14
  replace hB := keepB0 hg hB
  replace hb4 := keepO0 hg hb4
  replace hb6 := keepO0 hg hb6
  clear hg hge14 hlt14
  refine hK12 _ _ ?_; clear hK12 K11
  refine wp_seq_k fun K15 hK16 => ?_
  refine wp_seq_k fun K17 hK18 => ?_
  refine region ?_
  refine sv ha (r_assign ha rfl) rfl rfl rfl ?_; clear ha a; intro a ha
  refine hK18 _ _ ?_; clear hK18 K17
  refine wp_block ?_
  refine loopG (fun (i : Nat) a w => (i ≤ 128) ∧ Has 59 [(0, .agg ((p).map ei).toArray), (1, .pointer (some ⟨b4, 0, none⟩)), (2, .pointer (some ⟨b6, 0, none⟩)), (8, .agg ((p).map ei).toArray), (9, .agg ((cl p).map ei).toArray), (3, .pointer (some ⟨b14, 0, none⟩)), (4, en i)] a ∧ Below w0.heap.size w0 w ∧ w.heap[b4]? = some (.cells ((cl p).map ei).toArray 33 (0, 0)) ∧ w.heap[b6]? = some (.cells ((List.replicate 256 (0 : Int)).map ei).toArray 33 (0, 0)) ∧ w.heap[b14]? = some (.cells ((rivA (cl p) i).map ei).toArray 33 (0, 0))) (fun i => 128 - i) 0 ⟨(by omega), ha.to [0, 1, 2, 8, 9, 3, 4] rfl, hB, hb4, hb6, hb14⟩ ?_
  clear ha a hB hb4 hb6 hb14
  intro i a w19 ⟨hki, ha, hB, hb4, hb6, hb14⟩
  refine wp_seq_k fun K20 hK21 => ?_
  refine wp_seq_k fun K22 hK23 => ?_
  refine region ?_
  refine sv ha (r_move ha rfl) rfl rfl rfl ?_; clear ha a; intro a ha
  refine sv ha (r_lss ha ((i : Nat) : Int) 128 (decide (i < 128)) rfl rfl (decide_eq_decide.2 (by omega))) rfl rfl rfl ?_; clear ha a; intro a ha
  refine hK23 _ _ ?_; clear hK23 K22
  refine cond_if ha rfl (fun hc24 => ?_) (fun hc24 => ?_)
  · skip
    replace hc24 := of_decide_eq_true hc24
    refine wp_skip ?_
    refine hK21 _ _ ?_; clear hK21 K20
    refine wp_seq_k fun K25 hK26 => ?_
    refine wp_block ?_
    refine wp_seq_k fun K27 hK28 => ?_
    refine region ?_
    refine sv ha (r_move ha rfl) rfl rfl rfl ?_; clear ha a; intro a ha
    refine sc ha (r_call ha [en i] rfl Tryd.call57) rfl rfl rfl (c_root i _ (by omega)) ?_
    clear ha a
    rintro e w29 ⟨rfl, hBc⟩
    have hg := grown_call hBc; clear hBc
    replace hB := keepB0 hg hB
    replace hb4 := keepO0 hg hb4
    replace hb6 := keepO0 hg hb6
    replace hb14 := keepO0 hg hb14
    clear hg
    refine ⟨_, rfl, ?_⟩; intro a ha
    refine sc ha (r_call ha [ei ((rootN i : Nat) : Int), en 255] rfl Tryd.call25) rfl rfl rfl (c_rpow ((rootN i : Nat) : Int) 255 _ ) ?_
    clear ha a
    rintro e w30 ⟨rfl, hBc⟩
    have hg := grown_call hBc; clear hBc
    replace hB := keepB0 hg hB
    replace hb4 := keepO0 hg hb4
    replace hb6 := keepO0 hg hb6
    replace hb14 := keepO0 hg hb14
    clear hg
    refine ⟨_, rfl, ?_⟩; intro a ha
    refine sv ha (r_assign ha rfl) rfl rfl rfl ?_; clear ha a; intro a ha
    refine hK28 _ _ ?_; clear hK28 K27
    refine wp_seq_k fun K31 hK32 => ?_
    refine region ?_
    refine sv ha (r_assign ha rfl) rfl rfl rfl ?_; clear ha a; intro a ha
    refine hK32 _ _ ?_; clear hK32 K31
    refine wp_seq_k fun K33 hK34 => ?_
    refine region ?_
    refine sv ha (r_assign ha rfl) rfl rfl rfl ?_; clear ha a; intro a ha
    refine hK34 _ _ ?_; clear hK34 K33
    refine wp_block ?_
    refine loopG (fun (j : Nat) a w => (j ≤ 128) ∧ Has 59 [(0, .agg ((p).map ei).toArray), (1, .pointer (some ⟨b4, 0, none⟩)), (2, .pointer (some ⟨b6, 0, none⟩)), (8, .agg ((p).map ei).toArray), (9, .agg ((cl p).map ei).toArray), (3, .pointer (some ⟨b14, 0, none⟩)), (4, en i), (10, en i), (11, .bool (decide (i < 128))), (14, en i), (15, en (rootN i)), (16, en (rpow ((rootN i : Nat) : Int) 255)), (5, en (rpow ((rootN i : Nat) : Int) 255)), (7, en j), (6, en (riK (wN i) j))] a ∧ Below w0.heap.size w0 w ∧ w.heap[b4]? = some (.cells ((cl p).map ei).toArray 33 (0, 0)) ∧ w.heap[b6]? = some (.cells ((List.replicate 256 (0 : Int)).map ei).toArray 33 (0, 0)) ∧ w.heap[b14]? = some (.cells ((riJ (cl p) i (rivA (cl p) i) j).map ei).toArray 33 (0, 0))) (fun j => 128 - j) 0 ⟨(by omega), ha.to [0, 1, 2, 8, 9, 3, 4, 10, 11, 14, 15, 16, 5, 7, 6] rfl, hB, hb4, hb6, hb14⟩ ?_
    clear ha a hB hb4 hb6 hb14
    intro j a w35 ⟨hkj, ha, hB, hb4, hb6, hb14⟩
    have hk := riK_lt (wN i) j
    have hw := wN_lt i
    have hw2 : rpow ((rootN i : Nat) : Int) 255 < 3329 := wN_lt i
    refine wp_seq_k fun K36 hK37 => ?_
    refine wp_seq_k fun K38 hK39 => ?_
    refine region ?_
    refine sv ha (r_move ha rfl) rfl rfl rfl ?_; clear ha a; intro a ha
    refine sv ha (r_lss ha ((j : Nat) : Int) 128 (decide (j < 128)) rfl rfl (decide_eq_decide.2 (by omega))) rfl rfl rfl ?_; clear ha a; intro a ha
    refine hK39 _ _ ?_; clear hK39 K38
    refine cond_if ha rfl (fun hc40 => ?_) (fun hc40 => ?_)
    · skip
      replace hc40 := of_decide_eq_true hc40
      refine wp_skip ?_
      refine hK37 _ _ ?_; clear hK37 K36
      refine wp_seq_k fun K41 hK42 => ?_
      refine wp_block ?_
      refine wp_seq_k fun K43 hK44 => ?_
      refine regionD (S := fun w => Below w0.heap.size w0 w ∧ w.heap[b4]? = some (.cells ((cl p).map ei).toArray 33 (0, 0)) ∧ w.heap[b6]? = some (.cells ((List.replicate 256 (0 : Int)).map ei).toArray 33 (0, 0)) ∧ w.heap[b14]? = some (.cells ((riJ (cl p) i (rivA (cl p) i) j).map ei).toArray 33 (0, 0)) ∧ True) [15] [0, 1, 2, 3, 4, 5, 6, 7, 8, 9, 10, 11, 12, 13, 14] [0, 1, 2, 3, 4, 5, 6, 7, 8, 9, 10, 11, 12, 13, 14, 15] mixed (by kernel_rfl) (fun w hg => ⟨keepB0 hg hB, keepO0 hg hb4, keepO0 hg hb6, keepO0 hg hb14, trivial⟩) ?_
      intro w45 hg
      replace hB := keepB0 hg hB
      replace hb4 := keepO0 hg hb4
      replace hb6 := keepO0 hg hb6
      replace hb14 := keepO0 hg hb14
      clear hg
      refine cv ha rfl rfl (fun w _ => r_move ha rfl) rfl rfl rfl ?_; clear ha a; intro a ha
      refine cv ha rfl rfl (fun w _ => rn_mul ha 2 j rfl rfl (by omega)) rfl rfl rfl ?_; clear ha a; intro a ha
      refine cv ha rfl rfl (fun w _ => r_move ha rfl) rfl rfl rfl ?_; clear ha a; intro a ha
      refine cv ha rfl rfl (fun w _ => rn_mul ha 2 j rfl rfl (by omega)) rfl rfl rfl ?_; clear ha a; intro a ha
      refine cv ha rfl rfl (fun w _ => r_indexArr (i := 2 * j) ha (2 * j) Tryd.runUnderlying33 Tryd.sizeOf3 rfl rfl (by omega) (by omega)) rfl rfl rfl ?_; clear ha a; intro a ha
      have hlt46 := ((show Red (riJ (cl p) i (rivA (cl p) i) j) from (riJ_red (cl p) i (riv_red (cl p) i) j))).lt (2 * j)
      refine cv ha rfl rfl (fun w ⟨hB, hb4, hb6, hb14, _⟩ => n_of (r_load ha rfl Tryd.isAgg3 (cell_of hb14 (get_map ei (riJ (cl p) i (rivA (cl p) i) j) 0 (2 * j) (by rw [(riJ_red _ _ (riv_red _ _) _).len]; omega)))) (k := tn (riJ (cl p) i (rivA (cl p) i) j) (2 * j)) ((show Red (riJ (cl p) i (rivA (cl p) i) j) from (riJ_red (cl p) i (riv_red (cl p) i) j)).tn _)) rfl rfl rfl ?_; clear ha a; intro a ha
      refine cv ha rfl rfl (fun w _ => r_move ha rfl) rfl rfl rfl ?_; clear ha a; intro a ha
      refine cv ha rfl rfl (fun w _ => rn_mul ha 2 i rfl rfl (by omega)) rfl rfl rfl ?_; clear ha a; intro a ha
      refine cv ha rfl rfl (fun w _ => r_indexArr (i := 2 * i) ha (2 * i) Tryd.runUnderlying33 Tryd.sizeOf3 rfl rfl (by omega) (by omega)) rfl rfl rfl ?_; clear ha a; intro a ha
      have hlt47 := ((show Red (cl p) from (cl_red p hp))).lt (2 * i)
      refine cv ha rfl rfl (fun w ⟨hB, hb4, hb6, hb14, _⟩ => n_of (r_load ha rfl Tryd.isAgg3 (cell_of hb4 (get_map ei (cl p) 0 (2 * i) (by rw [(cl_red _ (by rw [hp])).len]; omega)))) (k := tn (cl p) (2 * i)) ((show Red (cl p) from (cl_red p hp)).tn _)) rfl rfl rfl ?_; clear ha a; intro a ha
      refine cv ha rfl rfl (fun w _ => r_move ha rfl) rfl rfl rfl ?_; clear ha a; intro a ha
      have hmm48 := Nat.mul_le_mul (show tn (cl p) (2 * i) ≤ 3328 by omega) (show riK (wN i) j ≤ 3328 by omega)
      refine cv ha rfl rfl (fun w _ => rn_mul ha (tn (cl p) (2 * i)) (riK (wN i) j) rfl rfl (by omega)) rfl rfl rfl ?_; clear ha a; intro a ha
      refine cv ha rfl rfl (fun w _ => rn_add ha (tn (riJ (cl p) i (rivA (cl p) i) j) (2 * j)) ((tn (cl p) (2 * i)) * (riK (wN i) j)) rfl rfl (by omega)) rfl rfl rfl ?_; clear ha a; intro a ha
      refine cv ha rfl rfl (fun w _ => rn_rem ha ((tn (riJ (cl p) i (rivA (cl p) i) j) (2 * j)) + ((tn (cl p) (2 * i)) * (riK (wN i) j))) 3329 rfl rfl (by omega)) rfl rfl rfl ?_; clear ha a; intro a ha
      refine cv ha rfl rfl (fun w _ => r_indexArr (i := 2 * j) ha (2 * j) Tryd.runUnderlying33 Tryd.sizeOf3 rfl rfl (by omega) (by omega)) rfl rfl rfl ?_; clear ha a; intro a ha
      refine cstore ha rfl rfl (v := ei ((((tn (riJ (cl p) i (rivA (cl p) i) j) (2 * j)) + ((tn (cl p) (2 * i)) * (riK (wN i) j))) % 3329 : Nat) : Int)) rfl rfl rfl rfl Tryd.sizeOf3 hb14 (by rw [List.length_map, (riJ_red _ _ (riv_red _ _) _).len]; omega) rfl ?_
      clear ha a; intro a w49 ha hg hb14'
      rw [set_map] at hb14'
      clear hb14; have hb14 := hb14'; clear hb14'
      replace hB := keepB1 hg (by omega) hB
      replace hb4 := keepO1 hg (by omega) hb4
      replace hb6 := keepO1 hg (by omega) hb6
      clear hg
      refine cfin (hK44 _ _ ?_); clear hK44 K43
      refine wp_seq_k fun K50 hK51 => ?_
      refine regionD (S := fun w => Below w0.heap.size w0 w ∧ w.heap[b4]? = some (.cells ((cl p).map ei).toArray 33 (0, 0)) ∧ w.heap[b6]? = some (.cells ((List.replicate 256 (0 : Int)).map ei).toArray 33 (0, 0)) ∧ w.heap[b14]? = some (.cells (((riJ (cl p) i (rivA (cl p) i) j).set (2 * j) ((((tn (riJ (cl p) i (rivA (cl p) i) j) (2 * j)) + ((tn (cl p) (2 * i)) * (riK (wN i) j))) % 3329 : Nat) : Int)).map ei).toArray 33 (0, 0)) ∧ True) [18] [0, 1, 2, 3, 4, 5, 6, 7, 8, 9, 10, 11, 12, 13, 14, 15, 16, 17] [0, 1, 2, 3, 4, 5, 6, 7, 8, 9, 10, 11, 12, 13, 14, 15, 16, 17, 18] mixed (by kernel_rfl) (fun w hg => ⟨keepB0 hg hB, keepO0 hg hb4, keepO0 hg hb6, keepO0 hg hb14, trivial⟩) ?_
      intro w52 hg
      replace hB := keepB0 hg hB
      replace hb4 := keepO0 hg hb4
      replace hb6 := keepO0 hg hb6
      replace hb14 := keepO0 hg hb14
      clear hg
      refine cv ha rfl rfl (fun w _ => r_move ha rfl) rfl rfl rfl ?_; clear ha a; intro a ha
      refine cv ha rfl rfl (fun w _ => rn_mul ha 2 j rfl rfl (by omega)) rfl rfl rfl ?_; clear ha a; intro a ha
      refine cv ha rfl rfl (fun w _ => rn_add ha (2 * j) 1 rfl rfl (by omega)) rfl rfl rfl ?_; clear ha a; intro a ha
      refine cv ha rfl rfl (fun w _ => r_move ha rfl) rfl rfl rfl ?_; clear ha a; intro a ha
      refine cv ha rfl rfl (fun w _ => rn_mul ha 2 j rfl rfl (by omega)) rfl rfl rfl ?_; clear ha a; intro a ha
      refine cv ha rfl rfl (fun w _ => rn_add ha (2 * j) 1 rfl rfl (by omega)) rfl rfl rfl ?_; clear ha a; intro a ha
      refine cv ha rfl rfl (fun w _ => r_indexArr (i := (2 * j) + 1) ha ((2 * j) + 1) Tryd.runUnderlying33 Tryd.sizeOf3 rfl rfl (by omega) (by omega)) rfl rfl rfl ?_; clear ha a; intro a ha
      have hlt53 := ((show Red ((riJ (cl p) i (rivA (cl p) i) j).set (2 * j) ((((tn (riJ (cl p) i (rivA (cl p) i) j) (2 * j)) + ((tn (cl p) (2 * i)) * (riK (wN i) j))) % 3329 : Nat) : Int)) from (((riJ_red (cl p) i (riv_red (cl p) i) j)).set _ (Nat.mod_lt _ (by decide))))).lt ((2 * j) + 1)
      refine cv ha rfl rfl (fun w ⟨hB, hb4, hb6, hb14, _⟩ => n_of (r_load ha rfl Tryd.isAgg3 (cell_of hb14 (get_map ei ((riJ (cl p) i (rivA (cl p) i) j).set (2 * j) ((((tn (riJ (cl p) i (rivA (cl p) i) j) (2 * j)) + ((tn (cl p) (2 * i)) * (riK (wN i) j))) % 3329 : Nat) : Int)) 0 ((2 * j) + 1) (by rw [List.length_set, (riJ_red _ _ (riv_red _ _) _).len]; omega)))) (k := tn ((riJ (cl p) i (rivA (cl p) i) j).set (2 * j) ((((tn (riJ (cl p) i (rivA (cl p) i) j) (2 * j)) + ((tn (cl p) (2 * i)) * (riK (wN i) j))) % 3329 : Nat) : Int)) ((2 * j) + 1)) ((show Red ((riJ (cl p) i (rivA (cl p) i) j).set (2 * j) ((((tn (riJ (cl p) i (rivA (cl p) i) j) (2 * j)) + ((tn (cl p) (2 * i)) * (riK (wN i) j))) % 3329 : Nat) : Int)) from (((riJ_red (cl p) i (riv_red (cl p) i) j)).set _ (Nat.mod_lt _ (by decide)))).tn _)) rfl rfl rfl ?_; clear ha a; intro a ha
      refine cv ha rfl rfl (fun w _ => r_move ha rfl) rfl rfl rfl ?_; clear ha a; intro a ha
      refine cv ha rfl rfl (fun w _ => rn_mul ha 2 i rfl rfl (by omega)) rfl rfl rfl ?_; clear ha a; intro a ha
      refine cv ha rfl rfl (fun w _ => rn_add ha (2 * i) 1 rfl rfl (by omega)) rfl rfl rfl ?_; clear ha a; intro a ha
      refine cv ha rfl rfl (fun w _ => r_indexArr (i := (2 * i) + 1) ha ((2 * i) + 1) Tryd.runUnderlying33 Tryd.sizeOf3 rfl rfl (by omega) (by omega)) rfl rfl rfl ?_; clear ha a; intro a ha
      have hlt54 := ((show Red (cl p) from (cl_red p hp))).lt ((2 * i) + 1)
      refine cv ha rfl rfl (fun w ⟨hB, hb4, hb6, hb14, _⟩ => n_of (r_load ha rfl Tryd.isAgg3 (cell_of hb4 (get_map ei (cl p) 0 ((2 * i) + 1) (by rw [(cl_red _ (by rw [hp])).len]; omega)))) (k := tn (cl p) ((2 * i) + 1)) ((show Red (cl p) from (cl_red p hp)).tn _)) rfl rfl rfl ?_; clear ha a; intro a ha
      refine cv ha rfl rfl (fun w _ => r_move ha rfl) rfl rfl rfl ?_; clear ha a; intro a ha
      have hmm55 := Nat.mul_le_mul (show tn (cl p) ((2 * i) + 1) ≤ 3328 by omega) (show riK (wN i) j ≤ 3328 by omega)
      refine cv ha rfl rfl (fun w _ => rn_mul ha (tn (cl p) ((2 * i) + 1)) (riK (wN i) j) rfl rfl (by omega)) rfl rfl rfl ?_; clear ha a; intro a ha
      refine cv ha rfl rfl (fun w _ => rn_add ha (tn ((riJ (cl p) i (rivA (cl p) i) j).set (2 * j) ((((tn (riJ (cl p) i (rivA (cl p) i) j) (2 * j)) + ((tn (cl p) (2 * i)) * (riK (wN i) j))) % 3329 : Nat) : Int)) ((2 * j) + 1)) ((tn (cl p) ((2 * i) + 1)) * (riK (wN i) j)) rfl rfl (by omega)) rfl rfl rfl ?_; clear ha a; intro a ha
      refine cv ha rfl rfl (fun w _ => rn_rem ha ((tn ((riJ (cl p) i (rivA (cl p) i) j).set (2 * j) ((((tn (riJ (cl p) i (rivA (cl p) i) j) (2 * j)) + ((tn (cl p) (2 * i)) * (riK (wN i) j))) % 3329 : Nat) : Int)) ((2 * j) + 1)) + ((tn (cl p) ((2 * i) + 1)) * (riK (wN i) j))) 3329 rfl rfl (by omega)) rfl rfl rfl ?_; clear ha a; intro a ha
      refine cv ha rfl rfl (fun w _ => r_indexArr (i := (2 * j) + 1) ha ((2 * j) + 1) Tryd.runUnderlying33 Tryd.sizeOf3 rfl rfl (by omega) (by omega)) rfl rfl rfl ?_; clear ha a; intro a ha
      refine cstore ha rfl rfl (v := ei ((((tn ((riJ (cl p) i (rivA (cl p) i) j).set (2 * j) ((((tn (riJ (cl p) i (rivA (cl p) i) j) (2 * j)) + ((tn (cl p) (2 * i)) * (riK (wN i) j))) % 3329 : Nat) : Int)) ((2 * j) + 1)) + ((tn (cl p) ((2 * i) + 1)) * (riK (wN i) j))) % 3329 : Nat) : Int)) rfl rfl rfl rfl Tryd.sizeOf3 hb14 (by rw [List.length_map, List.length_set, (riJ_red _ _ (riv_red _ _) _).len]; omega) rfl ?_
      clear ha a; intro a w56 ha hg hb14'
      rw [set_map] at hb14'
      clear hb14; have hb14 := hb14'; clear hb14'
      replace hB := keepB1 hg (by omega) hB
      replace hb4 := keepO1 hg (by omega) hb4
      replace hb6 := keepO1 hg (by omega) hb6
      clear hg
      refine cfin (hK51 _ _ ?_); clear hK51 K50
      refine region ?_
      refine sv ha (r_move ha rfl) rfl rfl rfl ?_; clear ha a; intro a ha
      refine sv ha (r_move ha rfl) rfl rfl rfl ?_; clear ha a; intro a ha
      have hmm57 := Nat.mul_le_mul (show riK (wN i) j ≤ 3328 by omega) (show rpow ((rootN i : Nat) : Int) 255 ≤ 3328 by omega)
      refine sv ha (rn_mul ha (riK (wN i) j) (rpow ((rootN i : Nat) : Int) 255) rfl rfl (by omega)) rfl rfl rfl ?_; clear ha a; intro a ha
      refine sv ha (rn_rem ha ((riK (wN i) j) * (rpow ((rootN i : Nat) : Int) 255)) 3329 rfl rfl (by omega)) rfl rfl rfl ?_; clear ha a; intro a ha
      refine sv ha (r_assign ha rfl) rfl rfl rfl ?_; clear ha a; intro a ha
      refine hK42 _ _ ?_; clear hK42 K41
      refine region ?_
      refine sv ha (r_move ha rfl) rfl rfl rfl ?_; clear ha a; intro a ha
      refine sv ha (rn_add ha j 1 rfl rfl (by omega)) rfl rfl rfl ?_; clear ha a; intro a ha
      refine sv ha (r_assign ha rfl) rfl rfl rfl ?_; clear ha a; intro a ha
      exact ⟨j + 1, by omega, (by omega), ha.to [0, 1, 2, 8, 9, 3, 4, 10, 11, 14, 15, 16, 5, 7, 6] rfl, hB, hb4, hb6, hb14⟩
    · skip
      replace hc40 := of_decide_eq_false hc40
      refine wp_exit ?_
      obtain rfl : j = 128 := by omega
      refine hK26 _ _ ?_; clear hK37 K36 hK26 K25
      refine region ?_
      refine sv ha (r_move ha rfl) rfl rfl rfl ?_; clear ha a; intro a ha
      refine sv ha (rn_add ha i 1 rfl rfl (by omega)) rfl rfl rfl ?_; clear ha a; intro a ha
      refine sv ha (r_assign ha rfl) rfl rfl rfl ?_; clear ha a; intro a ha
      exact ⟨i + 1, by omega, (by omega), ha.to [0, 1, 2, 8, 9, 3, 4] rfl, hB, hb4, hb6, hb14⟩
  · skip
    replace hc24 := of_decide_eq_false hc24
    refine wp_exit ?_
    obtain rfl : i = 128 := by omega
    refine hK16 _ _ ?_; clear hK21 K20 hK16 K15
    refine wp_seq_k fun K58 hK59 => ?_
    refine region ?_
    refine sv ha (r_loadR ha rfl Tryd.isAgg33 Tryd.sizeOf33 (C := (rivA (cl p) 128).map ei) (by rw [List.length_map, (riv_red _ _).len]) (cells_all hb14)) rfl rfl rfl ?_; clear ha a; intro a ha
    refine sstoreW ha rfl rfl (one_ei _) Tryd.sizeOf33 (by rw [List.length_map, (riv_red _ _).len]) hb6 (by rw [List.length_map, List.length_replicate]) ?_
    clear ha a; intro a w60 ha hg hb6'
    clear hb6; have hb6 := hb6'; clear hb6'
    replace hB := keepB1 hg (by omega) hB
    replace hb4 := keepO1 hg (by omega) hb4
    replace hb14 := keepO1 hg (by omega) hb14
    clear hg
    refine hK59 _ _ ?_; clear hK59 K58
    refine wp_ret ?_
    repeat (first | (with_reducible refine t_ret ?_) | (with_reducible refine x_ret ?_))
    exact retC _ ha Tryd.results45 rfl hb6 Tryd.underlying33 rfl (by rw [List.length_map, (riv_red _ _).len]; kernel_rfl) ⟨(by rw [inv_eq p hp]), hB⟩

theorem c_rtimes (p q : List Int) (w0 : World) (hp : p.length = 256) (hq : q.length = 256) :
    Calls Tryd.prog 47 #[.agg ((p).map ei).toArray, .agg ((q).map ei).toArray] w0 fun e w' => e = .returned (.agg ((tms p q).map ei).toArray) ∧ Below w0.heap.size w0 w' := by
  refine enter (args := [_, _]) Tryd.func47 rfl Tryd.ntmps47 rfl ?_
  intro a ha
  have hB := Below.refl w0.heap.size w0
  refine wp_seq_k fun K1 hK2 => ?_
  refine region ?_
  refine sbox ha rfl rfl ?_
  clear ha a; intro a w3 b4 ha hg hb4 hge4 hlt4
  have hz4 : w0.heap.size ≤ b4 := Nat.le_trans hB.size hge4
  replace hB := keepB0 hg hB
  clear hg hge4 hlt4
  refine sbox ha rfl rfl ?_
  clear ha a; intro a w5 b6 ha hg hb6 hge6 hlt6
  have hz6 : w0.heap.size ≤ b6 := Nat.le_trans hB.size hge6
  have hq4_6 : b4 < b6 := Nat.lt_of_lt_of_le (lt_of_block hb4) hge6
  replace hB := keepB0 hg hB
  replace hb4 := keepO0 hg hb4
  clear hg hge6 hlt6
  refine salloc ha zero_33Z4 rfl ?_
  clear ha a; intro a w7 b8 ha hg hb8 hge8 hlt8
  have hz8 : w0.heap.size ≤ b8 := Nat.le_trans hB.size hge8
  have hq4_8 : b4 < b8 := Nat.lt_of_lt_of_le (lt_of_block hb4) hge8
  have hq6_8 : b6 < b8 := Nat.lt_of_lt_of_le (lt_of_block hb6) hge8
  replace hB := keepB0 hg hB
  replace hb4 := keepO0 hg hb4
  replace hb6 := keepO0 hg hb6
  clear hg hge8 hlt8
  refine hK2 _ _ ?_; clear hK2 K1
  refine wp_seq_k fun K9 hK10 => ?_
  refine region ?_
  refine sv ha (r_loadR ha rfl Tryd.isAgg33 Tryd.sizeOf33 (C := (p).map ei) (by rw [List.length_map, hp]) (cells_all hb4)) rfl rfl rfl ?_; clear ha a; intro a ha
  refine sc ha (r_call ha [.agg ((p).map ei).toArray] rfl Tryd.call41) rfl rfl rfl (c_rclean p _ (by rw [hp])) ?_
  clear ha a
  rintro e w11 ⟨rfl, hBc⟩
  have hg := grown_call hBc; clear hBc
  replace hB := keepB0 hg hB
  replace hb4 := keepO0 hg hb4
  replace hb6 := keepO0 hg hb6
  replace hb8 := keepO0 hg hb8
  clear hg
  refine ⟨_, rfl, ?_⟩; intro a ha
  refine sstoreW ha rfl rfl (one_ei _) Tryd.sizeOf33 (by rw [List.length_map, (cl_red _ (by rw [hp])).len]) hb4 (by rw [List.length_map, hp]) ?_
  clear ha a; intro a w12 ha hg hb4'
  clear hb4; have hb4 := hb4'; clear hb4'
  replace hB := keepB1 hg (by omega) hB
  replace hb6 := keepO1 hg (by omega) hb6
  replace hb8 := keepO1 hg (by omega) hb8
  clear hg
  refine hK10 _ _ ?_; clear hK10 K9
  refine wp_seq_k fun K13 hK14 => ?_
  refine region ?_
  refine sv ha (r_loadR ha rfl Tryd.isAgg33 Tryd.sizeOf33 (C := (q).map ei) (by rw [List.length_map, hq]) (cells_all hb6)) rfl rfl rfl ?_; clear ha a; intro a ha
  refine sc ha (r_call ha [.agg ((q).map ei).toArray] rfl Tryd.call41) rfl rfl rfl (c_rclean q _ (by rw [hq])) ?_
  clear ha a
  rintro e w15 ⟨rfl, hBc⟩
  have hg := grown_call hBc; clear hBc
  replace hB := keepB0 hg hB
  replace hb4 := keepO0 hg hb4
  replace hb6 := keepO0 hg hb6
  replace hb8 := keepO0 hg hb8
  clear hg
  refine ⟨_, rfl, ?_⟩; intro a ha
  refine sstoreW ha rfl rfl (one_ei _) Tryd.sizeOf33 (by rw [List.length_map, (cl_red _ (by rw [hq])).len]) hb6 (by rw [List.length_map, hq]) ?_
  clear ha a; intro a w16 ha hg hb6'
  clear hb6; have hb6 := hb6'; clear hb6'
  replace hB := keepB1 hg (by omega) hB
  replace hb4 := keepO1 hg (by omega) hb4
  replace hb8 := keepO1 hg (by omega) hb8
  clear hg
  refine hK14 _ _ ?_; clear hK14 K13
  refine wp_seq_k fun K17 hK18 => ?_
  refine region ?_
  refine salloc ha zero_33Z4 rfl ?_
  clear ha a; intro a w19 b20 ha hg hb20 hge20 hlt20
  have hz20 : w0.heap.size ≤ b20 := Nat.le_trans hB.size hge20
  have hq4_20 : b4 < b20 := Nat.lt_of_lt_of_le (lt_of_block hb4) hge20
  have hq6_20 : b6 < b20 := Nat.lt_of_lt_of_le (lt_of_block hb6) hge20
  have hq8_20 : b8 < b20 := Nat.lt_of_lt_of_le (lt_of_block hb8) hge20
  replace hB := keepB0 hg hB
  replace hb4 := keepO0 hg hb4
  replace hb6 := keepO0 hg hb6
  replace hb8 := keepO0 hg hb8
  clear hg hge20 hlt20
  refine hK18 _ _ ?_; clear hK18 K17
  refine wp_seq_k fun K21 hK22 => ?_
  refine wp_seq_k fun K23 hK24 => ?_
  refine region ?_
  refine sv ha (r_assign ha rfl) rfl rfl rfl ?_; clear ha a; intro a ha
  refine hK24 _ _ ?_; clear hK24 K23
  refine wp_block ?_
  refine loopG (fun (i : Nat) a w => (i ≤ 128) ∧ Has 71 [(0, .agg ((p).map ei).toArray), (1, .agg ((q).map ei).toArray), (2, .pointer (some ⟨b4, 0, none⟩)), (3, .pointer (some ⟨b6, 0, none⟩)), (4, .pointer (some ⟨b8, 0, none⟩)), (7, .agg ((p).map ei).toArray), (8, .agg ((cl p).map ei).toArray), (9, .agg ((q).map ei).toArray), (10, .agg ((cl q).map ei).toArray), (5, .pointer (some ⟨b20, 0, none⟩)), (6, en i)] a ∧ Below w0.heap.size w0 w ∧ w.heap[b4]? = some (.cells ((cl p).map ei).toArray 33 (0, 0)) ∧ w.heap[b6]? = some (.cells ((cl q).map ei).toArray 33 (0, 0)) ∧ w.heap[b8]? = some (.cells ((List.replicate 256 (0 : Int)).map ei).toArray 33 (0, 0)) ∧ w.heap[b20]? = some (.cells ((rtmA (cl p) (cl q) i).map ei).toArray 33 (0, 0))) (fun i => 128 - i) 0 ⟨(by omega), ha.to [0, 1, 2, 3, 4, 7, 8, 9, 10, 5, 6] rfl, hB, hb4, hb6, hb8, hb20⟩ ?_
  clear ha a hB hb4 hb6 hb8 hb20
  intro i a w25 ⟨hki, ha, hB, hb4, hb6, hb8, hb20⟩
  have hrt := rootN_lt i
  refine wp_seq_k fun K26 hK27 => ?_
  refine wp_seq_k fun K28 hK29 => ?_
  refine region ?_
  refine sv ha (r_move ha rfl) rfl rfl rfl ?_; clear ha a; intro a ha
  refine sv ha (r_lss ha ((i : Nat) : Int) 128 (decide (i < 128)) rfl rfl (decide_eq_decide.2 (by omega))) rfl rfl rfl ?_; clear ha a; intro a ha
  refine hK29 _ _ ?_; clear hK29 K28
  refine cond_if ha rfl (fun hc30 => ?_) (fun hc30 => ?_)
  · skip
    replace hc30 := of_decide_eq_true hc30
    refine wp_skip ?_
    refine hK27 _ _ ?_; clear hK27 K26
    refine wp_seq_k fun K31 hK32 => ?_
    refine wp_block ?_
    refine wp_seq_k fun K33 hK34 => ?_
    refine regionD (S := fun w => Below w0.heap.size w0 w ∧ w.heap[b4]? = some (.cells ((cl p).map ei).toArray 33 (0, 0)) ∧ w.heap[b6]? = some (.cells ((cl q).map ei).toArray 33 (0, 0)) ∧ w.heap[b8]? = some (.cells ((List.replicate 256 (0 : Int)).map ei).toArray 33 (0, 0)) ∧ w.heap[b20]? = some (.cells ((rtmA (cl p) (cl q) i).map ei).toArray 33 (0, 0)) ∧ True) [29] [0, 1, 2, 3, 4, 5, 6, 7, 8, 9, 10, 11, 12, 13, 14, 15, 16, 17, 18, 19, 20, 21, 22, 23, 25, 26, 27, 28] [0, 1, 2, 3, 4, 5, 6, 7, 8, 9, 10, 11, 12, 13, 14, 15, 16, 17, 18, 19, 20, 21, 22, 23, 24, 25, 26, 27, 28, 29] mixed (by kernel_rfl) (fun w hg => ⟨keepB0 hg hB, keepO0 hg hb4, keepO0 hg hb6, keepO0 hg hb8, keepO0 hg hb20, trivial⟩) ?_
    intro w35 hg
    replace hB := keepB0 hg hB
    replace hb4 := keepO0 hg hb4
    replace hb6 := keepO0 hg hb6
    replace hb8 := keepO0 hg hb8
    replace hb20 := keepO0 hg hb20
    clear hg
    refine cv ha rfl rfl (fun w _ => r_move ha rfl) rfl rfl rfl ?_; clear ha a; intro a ha
    refine cv ha rfl rfl (fun w _ => rn_mul ha 2 i rfl rfl (by omega)) rfl rfl rfl ?_; clear ha a; intro a ha
    refine cv ha rfl rfl (fun w _ => r_move ha rfl) rfl rfl rfl ?_; clear ha a; intro a ha
    refine cv ha rfl rfl (fun w _ => rn_mul ha 2 i rfl rfl (by omega)) rfl rfl rfl ?_; clear ha a; intro a ha
    refine cv ha rfl rfl (fun w _ => r_indexArr (i := 2 * i) ha (2 * i) Tryd.runUnderlying33 Tryd.sizeOf3 rfl rfl (by omega) (by omega)) rfl rfl rfl ?_; clear ha a; intro a ha
    have hlt36 := ((show Red (cl p) from (cl_red p hp))).lt (2 * i)
    refine cv ha rfl rfl (fun w ⟨hB, hb4, hb6, hb8, hb20, _⟩ => n_of (r_load ha rfl Tryd.isAgg3 (cell_of hb4 (get_map ei (cl p) 0 (2 * i) (by rw [(cl_red _ (by rw [hp])).len]; omega)))) (k := tn (cl p) (2 * i)) ((show Red (cl p) from (cl_red p hp)).tn _)) rfl rfl rfl ?_; clear ha a; intro a ha
    refine cv ha rfl rfl (fun w _ => r_move ha rfl) rfl rfl rfl ?_; clear ha a; intro a ha
    refine cv ha rfl rfl (fun w _ => rn_mul ha 2 i rfl rfl (by omega)) rfl rfl rfl ?_; clear ha a; intro a ha
    refine cv ha rfl rfl (fun w _ => r_indexArr (i := 2 * i) ha (2 * i) Tryd.runUnderlying33 Tryd.sizeOf3 rfl rfl (by omega) (by omega)) rfl rfl rfl ?_; clear ha a; intro a ha
    have hlt37 := ((show Red (cl q) from (cl_red q hq))).lt (2 * i)
    refine cv ha rfl rfl (fun w ⟨hB, hb4, hb6, hb8, hb20, _⟩ => n_of (r_load ha rfl Tryd.isAgg3 (cell_of hb6 (get_map ei (cl q) 0 (2 * i) (by rw [(cl_red _ (by rw [hq])).len]; omega)))) (k := tn (cl q) (2 * i)) ((show Red (cl q) from (cl_red q hq)).tn _)) rfl rfl rfl ?_; clear ha a; intro a ha
    have hmm38 := Nat.mul_le_mul (show tn (cl p) (2 * i) ≤ 3328 by omega) (show tn (cl q) (2 * i) ≤ 3328 by omega)
    refine cv ha rfl rfl (fun w _ => rn_mul ha (tn (cl p) (2 * i)) (tn (cl q) (2 * i)) rfl rfl (by omega)) rfl rfl rfl ?_; clear ha a; intro a ha
    refine cv ha rfl rfl (fun w _ => r_move ha rfl) rfl rfl rfl ?_; clear ha a; intro a ha
    refine cv ha rfl rfl (fun w _ => rn_mul ha 2 i rfl rfl (by omega)) rfl rfl rfl ?_; clear ha a; intro a ha
    refine cv ha rfl rfl (fun w _ => rn_add ha (2 * i) 1 rfl rfl (by omega)) rfl rfl rfl ?_; clear ha a; intro a ha
    refine cv ha rfl rfl (fun w _ => r_indexArr (i := (2 * i) + 1) ha ((2 * i) + 1) Tryd.runUnderlying33 Tryd.sizeOf3 rfl rfl (by omega) (by omega)) rfl rfl rfl ?_; clear ha a; intro a ha
    have hlt39 := ((show Red (cl p) from (cl_red p hp))).lt ((2 * i) + 1)
    refine cv ha rfl rfl (fun w ⟨hB, hb4, hb6, hb8, hb20, _⟩ => n_of (r_load ha rfl Tryd.isAgg3 (cell_of hb4 (get_map ei (cl p) 0 ((2 * i) + 1) (by rw [(cl_red _ (by rw [hp])).len]; omega)))) (k := tn (cl p) ((2 * i) + 1)) ((show Red (cl p) from (cl_red p hp)).tn _)) rfl rfl rfl ?_; clear ha a; intro a ha
    refine cv ha rfl rfl (fun w _ => r_move ha rfl) rfl rfl rfl ?_; clear ha a; intro a ha
    refine cv ha rfl rfl (fun w _ => rn_mul ha 2 i rfl rfl (by omega)) rfl rfl rfl ?_; clear ha a; intro a ha
    refine cv ha rfl rfl (fun w _ => rn_add ha (2 * i) 1 rfl rfl (by omega)) rfl rfl rfl ?_; clear ha a; intro a ha
    refine cv ha rfl rfl (fun w _ => r_indexArr (i := (2 * i) + 1) ha ((2 * i) + 1) Tryd.runUnderlying33 Tryd.sizeOf3 rfl rfl (by omega) (by omega)) rfl rfl rfl ?_; clear ha a; intro a ha
    have hlt40 := ((show Red (cl q) from (cl_red q hq))).lt ((2 * i) + 1)
    refine cv ha rfl rfl (fun w ⟨hB, hb4, hb6, hb8, hb20, _⟩ => n_of (r_load ha rfl Tryd.isAgg3 (cell_of hb6 (get_map ei (cl q) 0 ((2 * i) + 1) (by rw [(cl_red _ (by rw [hq])).len]; omega)))) (k := tn (cl q) ((2 * i) + 1)) ((show Red (cl q) from (cl_red q hq)).tn _)) rfl rfl rfl ?_; clear ha a; intro a ha
    have hmm41 := Nat.mul_le_mul (show tn (cl p) ((2 * i) + 1) ≤ 3328 by omega) (show tn (cl q) ((2 * i) + 1) ≤ 3328 by omega)
    refine cv ha rfl rfl (fun w _ => rn_mul ha (tn (cl p) ((2 * i) + 1)) (tn (cl q) ((2 * i) + 1)) rfl rfl (by omega)) rfl rfl rfl ?_; clear ha a; intro a ha
    refine cv ha rfl rfl (fun w _ => rn_rem ha ((tn (cl p) ((2 * i) + 1)) * (tn (cl q) ((2 * i) + 1))) 3329 rfl rfl (by omega)) rfl rfl rfl ?_; clear ha a; intro a ha
    refine cv ha rfl rfl (fun w _ => r_move ha rfl) rfl rfl rfl ?_; clear ha a; intro a ha
    refine cc ha rfl rfl (r_call ha [en i] rfl Tryd.call57) rfl rfl rfl (c_root i _ (by omega)) ?_
    clear ha a
    rintro e w42 ⟨rfl, hBc⟩
    have hg := grown_call hBc; clear hBc
    replace hB := keepB0 hg hB
    replace hb4 := keepO0 hg hb4
    replace hb6 := keepO0 hg hb6
    replace hb8 := keepO0 hg hb8
    replace hb20 := keepO0 hg hb20
    clear hg
    refine ⟨fun _ => ⟨hB, hb4, hb6, hb8, hb20, trivial⟩, _, rfl, ?_⟩; intro a ha
    have hmm43 := Nat.mul_le_mul (show ((tn (cl p) ((2 * i) + 1)) * (tn (cl q) ((2 * i) + 1))) % 3329 ≤ 3328 by omega) (show rootN i ≤ 3328 by omega)
    refine cv ha rfl rfl (fun w _ => rn_mul ha (((tn (cl p) ((2 * i) + 1)) * (tn (cl q) ((2 * i) + 1))) % 3329) (rootN i) rfl rfl (by omega)) rfl rfl rfl ?_; clear ha a; intro a ha
    refine cv ha rfl rfl (fun w _ => rn_add ha ((tn (cl p) (2 * i)) * (tn (cl q) (2 * i))) ((((tn (cl p) ((2 * i) + 1)) * (tn (cl q) ((2 * i) + 1))) % 3329) * (rootN i)) rfl rfl (by omega)) rfl rfl rfl ?_; clear ha a; intro a ha
    refine cv ha rfl rfl (fun w _ => rn_rem ha (((tn (cl p) (2 * i)) * (tn (cl q) (2 * i))) + ((((tn (cl p) ((2 * i) + 1)) * (tn (cl q) ((2 * i) + 1))) % 3329) * (rootN i))) 3329 rfl rfl (by omega)) rfl rfl rfl ?_; clear ha a; intro a ha
    refine cv ha rfl rfl (fun w _ => r_indexArr (i := 2 * i) ha (2 * i) Tryd.runUnderlying33 Tryd.sizeOf3 rfl rfl (by omega) (by omega)) rfl rfl rfl ?_; clear ha a; intro a ha
    refine cstore ha rfl rfl (v := ei (((((tn (cl p) (2 * i)) * (tn (cl q) (2 * i))) + ((((tn (cl p) ((2 * i) + 1)) * (tn (cl q) ((2 * i) + 1))) % 3329) * (rootN i))) % 3329 : Nat) : Int)) rfl rfl rfl rfl Tryd.sizeOf3 hb20 (by rw [List.length_map, (rtm_red _ _ _).len]; omega) rfl ?_
    clear ha a; intro a w44 ha hg hb20'
    rw [set_map] at hb20'
    clear hb20; have hb20 := hb20'; clear hb20'
    replace hB := keepB1 hg (by omega) hB
    replace hb4 := keepO1 hg (by omega) hb4
    replace hb6 := keepO1 hg (by omega) hb6
    replace hb8 := keepO1 hg (by omega) hb8
    clear hg
    refine cfin (hK34 _ _ ?_); clear hK34 K33
    refine regionD (S := fun w => Below w0.heap.size w0 w ∧ w.heap[b4]? = some (.cells ((cl p).map ei).toArray 33 (0, 0)) ∧ w.heap[b6]? = some (.cells ((cl q).map ei).toArray 33 (0, 0)) ∧ w.heap[b8]? = some (.cells ((List.replicate 256 (0 : Int)).map ei).toArray 33 (0, 0)) ∧ w.heap[b20]? = some (.cells (((rtmA (cl p) (cl q) i).set (2 * i) (((((tn (cl p) (2 * i)) * (tn (cl q) (2 * i))) + ((((tn (cl p) ((2 * i) + 1)) * (tn (cl q) ((2 * i) + 1))) % 3329) * (rootN i))) % 3329 : Nat) : Int)).map ei).toArray 33 (0, 0)) ∧ True) [26] [0, 1, 2, 3, 4, 5, 6, 7, 8, 9, 10, 11, 12, 13, 14, 15, 16, 17, 18, 19, 20, 21, 22, 23, 24, 25] [0, 1, 2, 3, 4, 5, 6, 7, 8, 9, 10, 11, 12, 13, 14, 15, 16, 17, 18, 19, 20, 21, 22, 23, 24, 25, 26] mixed (by kernel_rfl) (fun w hg => ⟨keepB0 hg hB, keepO0 hg hb4, keepO0 hg hb6, keepO0 hg hb8, keepO0 hg hb20, trivial⟩) ?_
    intro w45 hg
    replace hB := keepB0 hg hB
    replace hb4 := keepO0 hg hb4
    replace hb6 := keepO0 hg hb6
    replace hb8 := keepO0 hg hb8
    replace hb20 := keepO0 hg hb20
    clear hg
    refine cv ha rfl rfl (fun w _ => r_move ha rfl) rfl rfl rfl ?_; clear ha a; intro a ha
    refine cv ha rfl rfl (fun w _ => rn_mul ha 2 i rfl rfl (by omega)) rfl rfl rfl ?_; clear ha a; intro a ha
    refine cv ha rfl rfl (fun w _ => rn_add ha (2 * i) 1 rfl rfl (by omega)) rfl rfl rfl ?_; clear ha a; intro a ha
    refine cv ha rfl rfl (fun w _ => r_move ha rfl) rfl rfl rfl ?_; clear ha a; intro a ha
    refine cv ha rfl rfl (fun w _ => rn_mul ha 2 i rfl rfl (by omega)) rfl rfl rfl ?_; clear ha a; intro a ha
    refine cv ha rfl rfl (fun w _ => r_indexArr (i := 2 * i) ha (2 * i) Tryd.runUnderlying33 Tryd.sizeOf3 rfl rfl (by omega) (by omega)) rfl rfl rfl ?_; clear ha a; intro a ha
    have hlt46 := ((show Red (cl p) from (cl_red p hp))).lt (2 * i)
    refine cv ha rfl rfl (fun w ⟨hB, hb4, hb6, hb8, hb20, _⟩ => n_of (r_load ha rfl Tryd.isAgg3 (cell_of hb4 (get_map ei (cl p) 0 (2 * i) (by rw [(cl_red _ (by rw [hp])).len]; omega)))) (k := tn (cl p) (2 * i)) ((show Red (cl p) from (cl_red p hp)).tn _)) rfl rfl rfl ?_; clear ha a; intro a ha
    refine cv ha rfl rfl (fun w _ => r_move ha rfl) rfl rfl rfl ?_; clear ha a; intro a ha
    refine cv ha rfl rfl (fun w _ => rn_mul ha 2 i rfl rfl (by omega)) rfl rfl rfl ?_; clear ha a; intro a ha
    refine cv ha rfl rfl (fun w _ => rn_add ha (2 * i) 1 rfl rfl (by omega)) rfl rfl rfl ?_; clear ha a; intro a ha
    refine cv ha rfl rfl (fun w _ => r_indexArr (i := (2 * i) + 1) ha ((2 * i) + 1) Tryd.runUnderlying33 Tryd.sizeOf3 rfl rfl (by omega) (by omega)) rfl rfl rfl ?_; clear ha a; intro a ha
    have hlt47 := ((show Red (cl q) from (cl_red q hq))).lt ((2 * i) + 1)
    refine cv ha rfl rfl (fun w ⟨hB, hb4, hb6, hb8, hb20, _⟩ => n_of (r_load ha rfl Tryd.isAgg3 (cell_of hb6 (get_map ei (cl q) 0 ((2 * i) + 1) (by rw [(cl_red _ (by rw [hq])).len]; omega)))) (k := tn (cl q) ((2 * i) + 1)) ((show Red (cl q) from (cl_red q hq)).tn _)) rfl rfl rfl ?_; clear ha a; intro a ha
    have hmm48 := Nat.mul_le_mul (show tn (cl p) (2 * i) ≤ 3328 by omega) (show tn (cl q) ((2 * i) + 1) ≤ 3328 by omega)
    refine cv ha rfl rfl (fun w _ => rn_mul ha (tn (cl p) (2 * i)) (tn (cl q) ((2 * i) + 1)) rfl rfl (by omega)) rfl rfl rfl ?_; clear ha a; intro a ha
    refine cv ha rfl rfl (fun w _ => r_move ha rfl) rfl rfl rfl ?_; clear ha a; intro a ha
    refine cv ha rfl rfl (fun w _ => rn_mul ha 2 i rfl rfl (by omega)) rfl rfl rfl ?_; clear ha a; intro a ha
    refine cv ha rfl rfl (fun w _ => rn_add ha (2 * i) 1 rfl rfl (by omega)) rfl rfl rfl ?_; clear ha a; intro a ha
    refine cv ha rfl rfl (fun w _ => r_indexArr (i := (2 * i) + 1) ha ((2 * i) + 1) Tryd.runUnderlying33 Tryd.sizeOf3 rfl rfl (by omega) (by omega)) rfl rfl rfl ?_; clear ha a; intro a ha
    have hlt49 := ((show Red (cl p) from (cl_red p hp))).lt ((2 * i) + 1)
    refine cv ha rfl rfl (fun w ⟨hB, hb4, hb6, hb8, hb20, _⟩ => n_of (r_load ha rfl Tryd.isAgg3 (cell_of hb4 (get_map ei (cl p) 0 ((2 * i) + 1) (by rw [(cl_red _ (by rw [hp])).len]; omega)))) (k := tn (cl p) ((2 * i) + 1)) ((show Red (cl p) from (cl_red p hp)).tn _)) rfl rfl rfl ?_; clear ha a; intro a ha
    refine cv ha rfl rfl (fun w _ => r_move ha rfl) rfl rfl rfl ?_; clear ha a; intro a ha
    refine cv ha rfl rfl (fun w _ => rn_mul ha 2 i rfl rfl (by omega)) rfl rfl rfl ?_; clear ha a; intro a ha
    refine cv ha rfl rfl (fun w _ => r_indexArr (i := 2 * i) ha (2 * i) Tryd.runUnderlying33 Tryd.sizeOf3 rfl rfl (by omega) (by omega)) rfl rfl rfl ?_; clear ha a; intro a ha
    have hlt50 := ((show Red (cl q) from (cl_red q hq))).lt (2 * i)
    refine cv ha rfl rfl (fun w ⟨hB, hb4, hb6, hb8, hb20, _⟩ => n_of (r_load ha rfl Tryd.isAgg3 (cell_of hb6 (get_map ei (cl q) 0 (2 * i) (by rw [(cl_red _ (by rw [hq])).len]; omega)))) (k := tn (cl q) (2 * i)) ((show Red (cl q) from (cl_red q hq)).tn _)) rfl rfl rfl ?_; clear ha a; intro a ha
    have hmm51 := Nat.mul_le_mul (show tn (cl p) ((2 * i) + 1) ≤ 3328 by omega) (show tn (cl q) (2 * i) ≤ 3328 by omega)
    refine cv ha rfl rfl (fun w _ => rn_mul ha (tn (cl p) ((2 * i) + 1)) (tn (cl q) (2 * i)) rfl rfl (by omega)) rfl rfl rfl ?_; clear ha a; intro a ha
    refine cv ha rfl rfl (fun w _ => rn_add ha ((tn (cl p) (2 * i)) * (tn (cl q) ((2 * i) + 1))) ((tn (cl p) ((2 * i) + 1)) * (tn (cl q) (2 * i))) rfl rfl (by omega)) rfl rfl rfl ?_; clear ha a; intro a ha
    refine cv ha rfl rfl (fun w _ => rn_rem ha (((tn (cl p) (2 * i)) * (tn (cl q) ((2 * i) + 1))) + ((tn (cl p) ((2 * i) + 1)) * (tn (cl q) (2 * i)))) 3329 rfl rfl (by omega)) rfl rfl rfl ?_; clear ha a; intro a ha
    refine cv ha rfl rfl (fun w _ => r_indexArr (i := (2 * i) + 1) ha ((2 * i) + 1) Tryd.runUnderlying33 Tryd.sizeOf3 rfl rfl (by omega) (by omega)) rfl rfl rfl ?_; clear ha a; intro a ha
    refine cstore ha rfl rfl (v := ei (((((tn (cl p) (2 * i)) * (tn (cl q) ((2 * i) + 1))) + ((tn (cl p) ((2 * i) + 1)) * (tn (cl q) (2 * i)))) % 3329 : Nat) : Int)) rfl rfl rfl rfl Tryd.sizeOf3 hb20 (by rw [List.length_map, List.length_set, (rtm_red _ _ _).len]; omega) rfl ?_
    clear ha a; intro a w52 ha hg hb20'
    rw [set_map] at hb20'
    clear hb20; have hb20 := hb20'; clear hb20'
    replace hB := keepB1 hg (by omega) hB
    replace hb4 := keepO1 hg (by omega) hb4
    replace hb6 := keepO1 hg (by omega) hb6
    replace hb8 := keepO1 hg (by omega) hb8
    clear hg
    refine cfin (hK32 _ _ ?_); clear hK32 K31
    refine region ?_
    refine sv ha (r_move ha rfl) rfl rfl rfl ?_; clear ha a; intro a ha
    refine sv ha (rn_add ha i 1 rfl rfl (by omega)) rfl rfl rfl ?_; clear ha a; intro a ha
    refine sv ha (r_assign ha rfl) rfl rfl rfl ?_; clear ha a; intro a ha
    exact ⟨i + 1, by omega, (by omega), ha.to [0, 1, 2, 3, 4, 7, 8, 9, 10, 5, 6] rfl, hB, hb4, hb6, hb8, hb20⟩
  · skip
    replace hc30 := of_decide_eq_false hc30
    refine wp_exit ?_
    obtain rfl : i = 128 := by omega
    refine hK22 _ _ ?_; clear hK27 K26 hK22 K21
    refine wp_seq_k fun K53 hK54 => ?_
    refine region ?_
    refine sv ha (r_loadR ha rfl Tryd.isAgg33 Tryd.sizeOf33 (C := (rtmA (cl p) (cl q) 128).map ei) (by rw [List.length_map, (rtm_red _ _ _).len]) (cells_all hb20)) rfl rfl rfl ?_; clear ha a; intro a ha
    refine sstoreW ha rfl rfl (one_ei _) Tryd.sizeOf33 (by rw [List.length_map, (rtm_red _ _ _).len]) hb8 (by rw [List.length_map, List.length_replicate]) ?_
    clear ha a; intro a w55 ha hg hb8'
    clear hb8; have hb8 := hb8'; clear hb8'
    replace hB := keepB1 hg (by omega) hB
    replace hb4 := keepO1 hg (by omega) hb4
    replace hb6 := keepO1 hg (by omega) hb6
    replace hb20 := keepO1 hg (by omega) hb20
    clear hg
    refine hK54 _ _ ?_; clear hK54 K53
    refine wp_ret ?_
    repeat (first | (with_reducible refine t_ret ?_) | (with_reducible refine x_ret ?_))
    exact retC _ ha Tryd.results47 rfl hb8 Tryd.underlying33 rfl (by rw [List.length_map, (rtm_red _ _ _).len]; kernel_rfl) ⟨(by rw [tms_eq p q hp hq]), hB⟩
end Go.Proofs.YtdiddkcoihpnhaaDoor
